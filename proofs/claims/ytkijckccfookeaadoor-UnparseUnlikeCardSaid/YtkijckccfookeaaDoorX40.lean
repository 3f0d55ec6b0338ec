/- Lemmas. -/
import Derived.Test.YtkijckccfookeaaDoorX39
set_option linter.unusedVariables false
set_option linter.unusedSimpArgs false
set_option maxRecDepth 100000
set_option maxHeartbeats 32000000
namespace Go.Proofs.YtkijckccfookeaaDoor
open Go.RowKit
section
attribute [-go_sem] Builtin.append_
attribute [-go_sem] storeVar
theorem wG (w:World)(f:Fnt)(A1 A2 A3 A4 A5 A6 A7 A8:Option Addr)(c1 c2 c3 c4 c5 c6 c7 c8:Nat)(i0:I64 f.unit)(s1:Sl aeU 9 w (Tf w) A1 f.aeN)(s2:Sl afb 2 w (Tf w) A2 f.chars)(s3:Sl aeV 3 w (Tf w) A3 f.aeO)(s4:Sl aeW 2 w (Tf w) A4 f.features)(s5:Sl ae2 4 w (Tf w) A5 f.aeP)(s6:Sl aeY 1 w (Tf w) A6 f.regions)(s7:Sl ae1 1 w (Tf w) A7 f.funcs)(s8:Sl aeQ 1 w (Tf w) A8 f.cvt)(hS:afz f)(h0:0<f.aeN.length)(q0 q1 q2:Int)(hq:(q0.tmod 16+16).tmod 16=3\/(q0.tmod 16+16).tmod 16=4\/(q0.tmod 16+16).tmod 16=5):Calls Tryd.prog 7 #[.agg #[.int .i64 f.unit,.slice A1 f.aeN.length c1,.slice A2 f.chars.length c2,.slice A3 f.aeO.length c3,.slice A4 f.features.length c4,.slice A5 f.aeP.length c5,.slice A6 f.regions.length c6,.slice A7 f.funcs.length c7,.slice A8 f.cvt.length c8],.agg #[.int .i64 q0,.int .i64 q1,.int .i64 q2]] w (jF w):=by
 obtain⟨Wf,Wq,Wr,Wg,Wl,W1,G,cg,cl,Al,hWf,qh,jW,hrun1,hrun2,qA,pU,pO,pW,fz3,pV,j2,j1,j0,hW1,HT⟩:=iQ w f A1 A2 A3 A4 A5 A6 A7 A8 c1 c2 c3 c4 c5 c6 c7 c8 i0 s1 s2 s3 s4 s5 s6 s7 s8 hS h0 q0 q1 q2;have b1:=hS.aeN;have b2:=hS.aeO;unfold Few at b1 b2;have HS:=hd0 hS;have vg:=aO 24 (by kernel_rfl);have vl:=aO 26 (by kernel_rfl);obtain⟨r2,ha2,hr2,hr2'⟩:=aU q2 100 (by omega);obtain⟨nn,hn2,nM⟩:=aH (r2+(100:Nat)) 100 (by omega) (by omega);obtain⟨r1,ha1,hr1,hr1'⟩:=aU q1 f.aeN.length h0;obtain⟨i,hi1,hin⟩:=aH (r1+f.aeN.length) f.aeN.length h0 (by omega);have hK:0<f.aeO.length->∃(r:Int) (k:Nat),q1.tmod (f.aeO.length:Int)=r/\ -(f.aeO.length:Int)<r/\r<f.aeO.length/\(r+f.aeO.length).tmod (f.aeO.length:Int)=(k:Int)/\k<f.aeO.length:=fun hp=>by
  obtain⟨r,ha,hb,hc⟩:=aU q1 f.aeO.length hp;obtain⟨k,hd,he⟩:=aH (r+f.aeO.length) f.aeO.length hp (by omega);exact⟨r,k,ha,hb,hc,hd,he⟩
 have HK:=hd0 hK;have bn:decide ((0:Int)<(f.aeN.length:Int))=true:=decide_eq_true (by omega);have ja:((100:Nat):Int)=100:=rfl;rw[ja] at ha2 hn2;clear hS hK ja i0 s1 s2 s3 s4 s5 s6 s7 s8;obtain⟨mm,hmm⟩:∃m:Int,(q0.tmod 16+16).tmod 16=m:=⟨_,rfl⟩
 rw[hmm] at hq;obtain⟨r0,hr0⟩:∃r:Int,q0.tmod 16=r/\ -16<r/\r<16:=aU q0 16 (by omega);obtain⟨ha0,hr1',vk⟩:=hr0;rw[ha0] at hmm;go_enter Tryd.func7,Tryd.ntmps7
 go_upto_if 39 with fail
 try clear hWf
 try clear qh
 try clear jW
 clear qA pU hrun1 hrun2 j2 ha2 hi1 ha1 bn;go_cut [9] from 40 to 50 (fun v wx=>∃k:Nat,v= .int .i64 k/\(0<f.aeO.length->k<f.aeO.length)/\Wl=wx)
 case first=>
  by_cases hp:0<f.aeO.length
  ·obtain⟨r,k,e1,e2,e3,e4,e5⟩:=HK.out hp;have bp:decide ((0:Int)<(f.aeO.length:Int))=true:=decide_eq_true (by omega);go_wp2_with fail
   go_meet
   exact⟨k,rfl,fun _=>e5,rfl⟩
  have bp:decide ((0:Int)<(f.aeO.length:Int))=false:=decide_eq_false (by omega);go_wp2_with fail
  go_meet
  exact⟨0,rfl,fun h=>absurd h hp,rfl⟩
 case rest=>
 obtain⟨k,rfl,hkl,rfl⟩:=hcut;clear HK j1
 go_upto_block 0 with fail
 try rw[hW1]
 clear vg vl hW1 pO fz3 pW pV j0 ha0 hmm;go_cut [] from 60 to 374 (fun wx=>∃(g:Fnt) (cs:List Value),TD w wx Wq.heap.size cs g/\afj g)
 case first=>
  have wP:=HT.out.low.size;have lC:Hid (Below w.heap.size w W1):=hd0 HT.out.low;obtain⟨x,D3,d3,D4,d4,D5,d5,D6,d6,D7,d7,D8,d8,hx,l4,l5,l6,l7,l8,hgr,t4,t5,t6,t7,t8⟩:=HT.out.aeT hin;have HX:=hd0 (HS.out.aeT x (agM hx.out));have vY:G<W1.heap.size:=by obtain⟨gc,iI,h1,-⟩:=HT.out.gB;exact h1.lt
  have T4:=hd0 t4;have T5:=hd0 t5;have T6:=hd0 t6;have T7:=hd0 t7;have T8:=hd0 t8;have bn:decide ((0:Int)<(f.aeN.length:Int))=true:=decide_eq_true (by omega);clear hgr t4 t5 t6 t7 t8;rcases hq with rfl|rfl|rfl
  ·have hfew:=HX.out.ends;unfold Few at hfew;obtain⟨Ap,cp,W2,c0,hrun,ho,hf0,hb2⟩:=gz (W:=W1) One.int ku (by decide) T4.out (c:=d4) hfew lC.out;obtain⟨Aq,cq,W4,hrun4,dS,hg4,-⟩:=bQ ku 22 W2 W1.heap.size _ cp Ap c0 #[.int .i64 ((nn:Int) - 2)] rfl ho (by simp[Value.oneCell']) (by omega) hb2.size;have hb4:Below W1.heap.size W1 W4:=oP hb2 ho hg4;have h4:=HT.out.below hb4;have hld:(W1.alloc (.cells #[] aF)).cell? ⟨G,i*9+4,none⟩=some (.slice D4 x.ends.length d4):=((aP ((agE W1.heap.size W1).alloc (ai _) _)).1 _ _ vY).trans l4;obtain⟨⟨vo,qP⟩,hfz⟩:=h4.afL (k:=4) hin (by decide);have htd:=h4.afU hx.out (k:=4) (by decide) (.slice Aq (x.ends.length+1) cq) (fun cs hcs=>hcs.agq (by obtain⟨gc,iI,h1,-⟩:=h4.gB;exact TC.more aeQ.ok h4.low h1 h4.gG dS hf0 (y:=((nn:Int) - 2)) ⟨rfl,by omega,by omega⟩ rfl (by decide) (by decide) (by decide)) (by simp));have hbg:=HS.out.big.afR i (x:= {x with ends:=x.ends++[((nn:Int) - 2)]}) {HX.out.afI with ends:=HX.out.ends.snoc _};have gu:=hd0 htd;have iD:=hd0 hbg;have sv:=aO 22 (by kernel_rfl);clear ho hf0 dS hg4 htd hbg h4 hb2 hb4 l4 l5 l6 l7 l8;go_wp2_with fail
   go_meet
   exact⟨_,_,gu.out,iD.out⟩
  ·obtain⟨y,ye,yl⟩:=aH (nn:Int) 12 (by omega) (by omega);rw[show((12:Nat):Int)=12 from rfl] at ye;have hfew:=HX.out.parts;unfold Few at hfew;obtain⟨Ap,cp,W2,c0,hrun,ho,hf0,hb2⟩:=gz (W:=W1) One.part Gh (by decide) T5.out (c:=d5) hfew lC.out;obtain⟨Aq,cq,W4,hrun4,dS,hg4,-⟩:=bQ Gh 52 W2 W1.heap.size _ cp Ap c0 #[.int .i64 ((y:Int) - 1),.int .i64 ((nn:Int)*200),.int .i64 0] rfl ho (by simp[Value.oneCell']) (by omega) hb2.size;have hb4:Below W1.heap.size W1 W4:=oP hb2 ho hg4;have h4:=HT.out.below hb4;have hld:(W1.alloc (.cells #[] pK)).cell? ⟨G,i*9+5,none⟩=some (.slice D5 x.parts.length d5):=((aP ((agE W1.heap.size W1).alloc (ai _) _)).1 _ _ vY).trans l5;obtain⟨⟨vo,qP⟩,hfz⟩:=h4.afL (k:=5) hin (by decide);have htd:=h4.afU hx.out (k:=5) (by decide) (.slice Aq (x.parts.length+1) cq) (fun cs hcs=>hcs.age (by obtain⟨gc,iI,h1,-⟩:=h4.gB;exact TC.more afg.ok h4.low h1 h4.gG dS hf0 (y:=(⟨(y:Int) - 1,(nn:Int)*200,0⟩:Part)) ⟨rfl,⟨by show _<=(y:Int) - 1;omega,by show(y:Int) - 1<=_;omega⟩,⟨by show _<=(nn:Int)*200;omega,by show(nn:Int)*200<=_;omega⟩,⟨by show(_:Int)<=0;omega,by show(0:Int)<=_;omega⟩⟩ rfl (by decide) (by decide) (by decide)) (by simp));have hbg:=HS.out.big.afR i (x:= {x with parts:=x.parts++[(⟨(y:Int) - 1,(nn:Int)*200,0⟩:Part)]}) {HX.out.afI with parts:=HX.out.parts.snoc _};have gu:=hd0 htd;have iD:=hd0 hbg;have sv:=aO 52 (by kernel_rfl);clear ho hf0 dS hg4 htd hbg h4 hb2 hb4 l4 l5 l6 l7 l8;go_wp2_with fail
   go_meet
   exact⟨_,_,gu.out,iD.out⟩
  obtain⟨y,ye,yl⟩:=aH (nn:Int) 6 (by omega) (by omega);rw[show((6:Nat):Int)=6 from rfl] at ye;obtain⟨z,ze,zl⟩:=aH (nn:Int) 5 (by omega) (by omega);rw[show((5:Nat):Int)=5 from rfl] at ze;have hfew:=HX.out.anch;unfold Few at hfew;obtain⟨Ap,cp,W2,c0,hrun,ho,hf0,hb2⟩:=gz (W:=W1) One.anch Hm (by decide) T6.out (c:=d6) hfew lC.out;obtain⟨Aq,cq,W4,hrun4,dS,hg4,-⟩:=bQ Hm 53 W2 W1.heap.size _ cp Ap c0 #[.int .i64 (y:Int),.int .i64 ((z:Int) - 1),.int .i64 (nn:Int),.int .i64 0] rfl ho (by simp[Value.oneCell']) (by omega) hb2.size;have hb4:Below W1.heap.size W1 W4:=oP hb2 ho hg4;have h4:=HT.out.below hb4;have hld:(W1.alloc (.cells #[] pq)).cell? ⟨G,i*9+6,none⟩=some (.slice D6 x.anchors.length d6):=((aP ((agE W1.heap.size W1).alloc (ai _) _)).1 _ _ vY).trans l6;obtain⟨⟨vo,qP⟩,hfz⟩:=h4.afL (k:=6) hin (by decide);have htd:=h4.afU hx.out (k:=6) (by decide) (.slice Aq (x.anchors.length+1) cq) (fun cs hcs=>hcs.af8 (by obtain⟨gc,iI,h1,-⟩:=h4.gB;exact TC.more ae6.ok h4.low h1 h4.gG dS hf0 (y:=(⟨(y:Int),(z:Int) - 1,(nn:Int),0⟩:ae5)) ⟨rfl,⟨by show _<=(y:Int);omega,by show(y:Int)<=_;omega⟩,⟨by show _<=(z:Int) - 1;omega,by show(z:Int) - 1<=_;omega⟩,⟨by show _<=(nn:Int);omega,by show(nn:Int)<=_;omega⟩,⟨by show(_:Int)<=0;omega,by show(0:Int)<=_;omega⟩⟩ rfl (by decide) (by decide) (by decide)) (by simp));have hbg:=HS.out.big.afR i (x:= {x with anchors:=x.anchors++[(⟨(y:Int),(z:Int) - 1,(nn:Int),0⟩:ae5)]}) {HX.out.afI with anch:=HX.out.anch.snoc _};have gu:=hd0 htd;have iD:=hd0 hbg;have sv:=aO 53 (by kernel_rfl);clear ho hf0 dS hg4 htd hbg h4 hb2 hb4 l4 l5 l6 l7 l8;go_wp2_with fail
  go_meet
  exact⟨_,_,gu.out,iD.out⟩
 case rest=>
 obtain⟨g,cs,hT,hB⟩:=hcut;obtain⟨hst,hbk,hsz,hpo⟩:=hT.fin hB;have gV:=hd0 hbk;have qi:=hd0 hsz;have rH:=hd0 hpo;have fM:=hd0 hT.box;obtain⟨B1,e1,B2,e2,B3,e3,B4,e4,B5,e5,B6,e6,B7,e7,B8,e8,rfl,-⟩:=hT.fnt;obtain⟨k0,k1,k2,k3,k4,k5,k6,k7,k8⟩:=nine fM.out (agE _ _);clear hbk hsz hpo hT hB HT HS;go_wp2_with fail
 exact bodyPost_ret (fC gV.out qi.out) rfl rH.out
end
section
attribute [-go_sem] Builtin.append_
attribute [-go_sem] storeVar
theorem wW (w:World)(f:Fnt)(A1 A2 A3 A4 A5 A6 A7 A8:Option Addr)(c1 c2 c3 c4 c5 c6 c7 c8:Nat)(i0:I64 f.unit)(s1:Sl aeU 9 w (Tf w) A1 f.aeN)(s2:Sl afb 2 w (Tf w) A2 f.chars)(s3:Sl aeV 3 w (Tf w) A3 f.aeO)(s4:Sl aeW 2 w (Tf w) A4 f.features)(s5:Sl ae2 4 w (Tf w) A5 f.aeP)(s6:Sl aeY 1 w (Tf w) A6 f.regions)(s7:Sl ae1 1 w (Tf w) A7 f.funcs)(s8:Sl aeQ 1 w (Tf w) A8 f.cvt)(hS:afz f)(h0:0<f.aeN.length)(q0 q1 q2:Int)(hq:(q0.tmod 16+16).tmod 16=6\/(q0.tmod 16+16).tmod 16=7\/(q0.tmod 16+16).tmod 16=8):Calls Tryd.prog 7 #[.agg #[.int .i64 f.unit,.slice A1 f.aeN.length c1,.slice A2 f.chars.length c2,.slice A3 f.aeO.length c3,.slice A4 f.features.length c4,.slice A5 f.aeP.length c5,.slice A6 f.regions.length c6,.slice A7 f.funcs.length c7,.slice A8 f.cvt.length c8],.agg #[.int .i64 q0,.int .i64 q1,.int .i64 q2]] w (jF w):=by
 obtain⟨Wf,Wq,Wr,Wg,Wl,W1,G,cg,cl,Al,hWf,qh,jW,hrun1,hrun2,qA,pU,pO,pW,fz3,pV,j2,j1,j0,hW1,HT⟩:=iQ w f A1 A2 A3 A4 A5 A6 A7 A8 c1 c2 c3 c4 c5 c6 c7 c8 i0 s1 s2 s3 s4 s5 s6 s7 s8 hS h0 q0 q1 q2;have b1:=hS.aeN;have b2:=hS.aeO;unfold Few at b1 b2;have HS:=hd0 hS;have vg:=aO 24 (by kernel_rfl);have vl:=aO 26 (by kernel_rfl);obtain⟨r2,ha2,hr2,hr2'⟩:=aU q2 100 (by omega);obtain⟨nn,hn2,nM⟩:=aH (r2+(100:Nat)) 100 (by omega) (by omega);obtain⟨r1,ha1,hr1,hr1'⟩:=aU q1 f.aeN.length h0;obtain⟨i,hi1,hin⟩:=aH (r1+f.aeN.length) f.aeN.length h0 (by omega);have hK:0<f.aeO.length->∃(r:Int) (k:Nat),q1.tmod (f.aeO.length:Int)=r/\ -(f.aeO.length:Int)<r/\r<f.aeO.length/\(r+f.aeO.length).tmod (f.aeO.length:Int)=(k:Int)/\k<f.aeO.length:=fun hp=>by
  obtain⟨r,ha,hb,hc⟩:=aU q1 f.aeO.length hp;obtain⟨k,hd,he⟩:=aH (r+f.aeO.length) f.aeO.length hp (by omega);exact⟨r,k,ha,hb,hc,hd,he⟩
 have HK:=hd0 hK;have bn:decide ((0:Int)<(f.aeN.length:Int))=true:=decide_eq_true (by omega);have ja:((100:Nat):Int)=100:=rfl;rw[ja] at ha2 hn2;clear hS hK ja i0 s1 s2 s3 s4 s5 s6 s7 s8;obtain⟨mm,hmm⟩:∃m:Int,(q0.tmod 16+16).tmod 16=m:=⟨_,rfl⟩
 rw[hmm] at hq;obtain⟨r0,hr0⟩:∃r:Int,q0.tmod 16=r/\ -16<r/\r<16:=aU q0 16 (by omega);obtain⟨ha0,hr1',vk⟩:=hr0;rw[ha0] at hmm;go_enter Tryd.func7,Tryd.ntmps7
 go_upto_if 39 with fail
 try clear hWf
 try clear qh
 try clear jW
 clear qA pU hrun1 hrun2 j2 ha2 hi1 ha1 bn;go_cut [9] from 40 to 50 (fun v wx=>∃k:Nat,v= .int .i64 k/\(0<f.aeO.length->k<f.aeO.length)/\Wl=wx)
 case first=>
  by_cases hp:0<f.aeO.length
  ·obtain⟨r,k,e1,e2,e3,e4,e5⟩:=HK.out hp;have bp:decide ((0:Int)<(f.aeO.length:Int))=true:=decide_eq_true (by omega);go_wp2_with fail
   go_meet
   exact⟨k,rfl,fun _=>e5,rfl⟩
  have bp:decide ((0:Int)<(f.aeO.length:Int))=false:=decide_eq_false (by omega);go_wp2_with fail
  go_meet
  exact⟨0,rfl,fun h=>absurd h hp,rfl⟩
 case rest=>
 obtain⟨k,rfl,hkl,rfl⟩:=hcut;clear HK j1
 go_upto_block 0 with fail
 try rw[hW1]
 clear vg vl hW1 pO fz3 pW pV j0 ha0 hmm;go_cut [] from 60 to 374 (fun wx=>∃(g:Fnt) (cs:List Value),TD w wx Wq.heap.size cs g/\afj g)
 case first=>
  have wP:=HT.out.low.size;have lC:Hid (Below w.heap.size w W1):=hd0 HT.out.low;obtain⟨x,D3,d3,D4,d4,D5,d5,D6,d6,D7,d7,D8,d8,hx,l4,l5,l6,l7,l8,hgr,t4,t5,t6,t7,t8⟩:=HT.out.aeT hin;have HX:=hd0 (HS.out.aeT x (agM hx.out));have vY:G<W1.heap.size:=by obtain⟨gc,iI,h1,-⟩:=HT.out.gB;exact h1.lt
  have T4:=hd0 t4;have T5:=hd0 t5;have T6:=hd0 t6;have T7:=hd0 t7;have T8:=hd0 t8;have bn:decide ((0:Int)<(f.aeN.length:Int))=true:=decide_eq_true (by omega);clear hgr t4 t5 t6 t7 t8;rcases hq with rfl|rfl|rfl
  ·obtain⟨y,ye,yl⟩:=aH (nn:Int) 4 (by omega) (by omega);rw[show((4:Nat):Int)=4 from rfl] at ye;obtain⟨z,ze,zl⟩:=aH (nn:Int) 7 (by omega) (by omega);rw[show((7:Nat):Int)=7 from rfl] at ze;obtain⟨u,ue,ul⟩:=aH (nn:Int) 2 (by omega) (by omega);rw[show((2:Nat):Int)=2 from rfl] at ue;have hfew:=HX.out.ae3;unfold Few at hfew;obtain⟨Ap,cp,W2,c0,hrun,ho,hf0,hb2⟩:=gz (W:=W1) One.agD CG (by decide) T7.out (c:=d7) hfew lC.out;obtain⟨Aq,cq,W4,hrun4,dS,hg4,-⟩:=bQ CG 54 W2 W1.heap.size _ cp Ap c0 #[.int .i64 ((y:Int) - 1),.int .i64 ((z:Int) - 2),.int .i64 (nn:Int),.int .i64 (u:Int)] rfl ho (by simp[Value.oneCell']) (by omega) hb2.size;have hb4:Below W1.heap.size W1 W4:=oP hb2 ho hg4;have h4:=HT.out.below hb4;have hld:(W1.alloc (.cells #[] jZ)).cell? ⟨G,i*9+7,none⟩=some (.slice D7 x.deltas.length d7):=((aP ((agE W1.heap.size W1).alloc (ai _) _)).1 _ _ vY).trans l7;obtain⟨⟨vo,qP⟩,hfz⟩:=h4.afL (k:=7) hin (by decide);have htd:=h4.afU hx.out (k:=7) (by decide) (.slice Aq (x.deltas.length+1) cq) (fun cs hcs=>hcs.agb (by obtain⟨gc,iI,h1,-⟩:=h4.gB;exact TC.more afc.ok h4.low h1 h4.gG dS hf0 (y:=(⟨(y:Int) - 1,(z:Int) - 2,(nn:Int),(u:Int)⟩:Delta)) ⟨rfl,⟨by show _<=(y:Int) - 1;omega,by show(y:Int) - 1<=_;omega⟩,⟨by show _<=(z:Int) - 2;omega,by show(z:Int) - 2<=_;omega⟩,⟨by show _<=(nn:Int);omega,by show(nn:Int)<=_;omega⟩,⟨by show _<=(u:Int);omega,by show(u:Int)<=_;omega⟩⟩ rfl (by decide) (by decide) (by decide)) (by simp));have hbg:=HS.out.big.afR i (x:= {x with deltas:=x.deltas++[(⟨(y:Int) - 1,(z:Int) - 2,(nn:Int),(u:Int)⟩:Delta)]}) {HX.out.afI with ae3:=HX.out.ae3.snoc _};have gu:=hd0 htd;have iD:=hd0 hbg;have sv:=aO 54 (by kernel_rfl);clear ho hf0 dS hg4 htd hbg h4 hb2 hb4 l4 l5 l6 l7 l8;go_wp2_with fail
   go_meet
   exact⟨_,_,gu.out,iD.out⟩
  ·obtain⟨y,ye,yl⟩:=aH (nn:Int) 42 (by omega) (by omega);rw[show((42:Nat):Int)=42 from rfl] at ye;have hfew:=HX.out.hint;unfold Few at hfew;obtain⟨Ap,cp,W2,c0,hrun,ho,hf0,hb2⟩:=gz (W:=W1) One.ins LG (by decide) T8.out (c:=d8) hfew lC.out;obtain⟨Aq,cq,W4,hrun4,dS,hg4,-⟩:=bQ LG 55 W2 W1.heap.size _ cp Ap c0 #[.int .i64 (y:Int),.int .i64 (nn:Int)] rfl ho (by simp[Value.oneCell']) (by omega) hb2.size;have hb4:Below W1.heap.size W1 W4:=oP hb2 ho hg4;have h4:=HT.out.below hb4;have hld:(W1.alloc (.cells #[] kN)).cell? ⟨G,i*9+8,none⟩=some (.slice D8 x.hint.length d8):=((aP ((agE W1.heap.size W1).alloc (ai _) _)).1 _ _ vY).trans l8;obtain⟨⟨vo,qP⟩,hfz⟩:=h4.afL (k:=8) hin (by decide);have htd:=h4.afU hx.out (k:=8) (by decide) (.slice Aq (x.hint.length+1) cq) (fun cs hcs=>hcs.agn (by obtain⟨gc,iI,h1,-⟩:=h4.gB;exact TC.more ae9.ok h4.low h1 h4.gG dS hf0 (y:=(⟨(y:Int),(nn:Int)⟩:Ins)) ⟨rfl,⟨by show _<=(y:Int);omega,by show(y:Int)<=_;omega⟩,⟨by show _<=(nn:Int);omega,by show(nn:Int)<=_;omega⟩⟩ rfl (by decide) (by decide) (by decide)) (by simp));have hbg:=HS.out.big.afR i (x:= {x with hint:=x.hint++[(⟨(y:Int),(nn:Int)⟩:Ins)]}) {HX.out.afI with hint:=HX.out.hint.snoc _};have gu:=hd0 htd;have iD:=hd0 hbg;have sv:=aO 55 (by kernel_rfl);clear ho hf0 dS hg4 htd hbg h4 hb2 hb4 l4 l5 l6 l7 l8;go_wp2_with fail
   go_meet
   exact⟨_,_,gu.out,iD.out⟩
  obtain⟨y,ye,yl⟩:=aH (nn:Int) 14 (by omega) (by omega);rw[show((14:Nat):Int)=14 from rfl] at ye;have hfew:=HS.out.chars;unfold Few at hfew;obtain⟨Ap,cp,W2,c0,hrun,ho,hf0,hb2⟩:=gz (W:=W1) One.chr Ha (by decide) HT.out.chars (c:=c2) hfew lC.out;have hld:(W1.alloc (.cells #[] I4)).cell? ⟨w.heap.size,2,none⟩=some (.slice A2 f.chars.length c2):=HT.out.box.at ((agE _ _).alloc (ai _) _) 2 rfl;obtain⟨Aq,cq,W4,hrun4,dS,hg4,-⟩:=bQ Ha 25 W2 W1.heap.size _ cp Ap c0 #[.int .i64 ((nn:Int)*12000),.int .i64 ((y:Int) - 1)] rfl ho (by simp[Value.oneCell']) (by omega) hb2.size;have hb4:Below W1.heap.size W1 W4:=oP hb2 ho hg4;have h4:=HT.out.below hb4;have hfz:W4.frozen? ⟨w.heap.size,2,none⟩=_:=h4.box.frozen 2;have qP:W4.cell? ⟨w.heap.size,2,none⟩=some (.slice A2 f.chars.length c2):=h4.box.cell 2;have htd:=h4.td.field 2 (.slice Aq (f.chars.length+1) cq) (g':= {f with chars:=f.chars++[(⟨(nn:Int)*12000,(y:Int) - 1⟩:Chr)]}) (by
   have hs:=mM afb.ok dS hf0 h4.low (Tf.low h4.low) (y:=(⟨(nn:Int)*12000,(y:Int) - 1⟩:Chr)) ⟨rfl,⟨by show _<=(nn:Int)*12000;omega,by show(nn:Int)*12000<=_;omega⟩,⟨by show _<=(y:Int) - 1;omega,by show(y:Int) - 1<=_;omega⟩⟩ rfl (fun b cur hk _=>⟨cur,_,hk,by decide⟩) (by decide);obtain⟨B1,e1,B2,e2,B3,e3,B4,e4,B5,e5,B6,e6,B7,e7,B8,e8,e,i0,n1,n2,n3,n4,n5,n6,n7,n8⟩:=h4.td.fnt;rw[e];exact⟨B1,e1,Aq,cq,B3,e3,B4,e4,B5,e5,B6,e6,B7,e7,B8,e8,by simp,i0,n1,hs,n3,n4,n5,n6,n7,n8⟩)
  have gu:=hd0 htd;have iD:Hid (afj {f with chars:=f.chars++[(⟨(nn:Int)*12000,(y:Int) - 1⟩:Chr)]}):=hd0 {HS.out.big with chars:=HS.out.chars.snoc _};have sv:=aO 25 (by kernel_rfl);clear ho hf0 dS hg4 htd h4 hb2 hb4 l4 l5 l6 l7 l8;go_wp2_with fail
  go_meet
  exact⟨_,_,gu.out,iD.out⟩
 case rest=>
 obtain⟨g,cs,hT,hB⟩:=hcut;obtain⟨hst,hbk,hsz,hpo⟩:=hT.fin hB;have gV:=hd0 hbk;have qi:=hd0 hsz;have rH:=hd0 hpo;have fM:=hd0 hT.box;obtain⟨B1,e1,B2,e2,B3,e3,B4,e4,B5,e5,B6,e6,B7,e7,B8,e8,rfl,-⟩:=hT.fnt;obtain⟨k0,k1,k2,k3,k4,k5,k6,k7,k8⟩:=nine fM.out (agE _ _);clear hbk hsz hpo hT hB HT HS;go_wp2_with fail
 exact bodyPost_ret (fC gV.out qi.out) rfl rH.out
end
section
attribute [-go_sem] Builtin.append_
attribute [-go_sem] storeVar
theorem EJ (w:World)(f:Fnt)(A1 A2 A3 A4 A5 A6 A7 A8:Option Addr)(c1 c2 c3 c4 c5 c6 c7 c8:Nat)(i0:I64 f.unit)(s1:Sl aeU 9 w (Tf w) A1 f.aeN)(s2:Sl afb 2 w (Tf w) A2 f.chars)(s3:Sl aeV 3 w (Tf w) A3 f.aeO)(s4:Sl aeW 2 w (Tf w) A4 f.features)(s5:Sl ae2 4 w (Tf w) A5 f.aeP)(s6:Sl aeY 1 w (Tf w) A6 f.regions)(s7:Sl ae1 1 w (Tf w) A7 f.funcs)(s8:Sl aeQ 1 w (Tf w) A8 f.cvt)(hS:afz f)(h0:0<f.aeN.length)(q0 q1 q2:Int)(hq:(q0.tmod 16+16).tmod 16=9\/(q0.tmod 16+16).tmod 16=10):Calls Tryd.prog 7 #[.agg #[.int .i64 f.unit,.slice A1 f.aeN.length c1,.slice A2 f.chars.length c2,.slice A3 f.aeO.length c3,.slice A4 f.features.length c4,.slice A5 f.aeP.length c5,.slice A6 f.regions.length c6,.slice A7 f.funcs.length c7,.slice A8 f.cvt.length c8],.agg #[.int .i64 q0,.int .i64 q1,.int .i64 q2]] w (jF w):=by
 obtain⟨Wf,Wq,Wr,Wg,Wl,W1,G,cg,cl,Al,hWf,qh,jW,hrun1,hrun2,qA,pU,pO,pW,fz3,pV,j2,j1,j0,hW1,HT⟩:=iQ w f A1 A2 A3 A4 A5 A6 A7 A8 c1 c2 c3 c4 c5 c6 c7 c8 i0 s1 s2 s3 s4 s5 s6 s7 s8 hS h0 q0 q1 q2;have b1:=hS.aeN;have b2:=hS.aeO;unfold Few at b1 b2;have HS:=hd0 hS;have vg:=aO 24 (by kernel_rfl);have vl:=aO 26 (by kernel_rfl);obtain⟨r2,ha2,hr2,hr2'⟩:=aU q2 100 (by omega);obtain⟨nn,hn2,nM⟩:=aH (r2+(100:Nat)) 100 (by omega) (by omega);obtain⟨r1,ha1,hr1,hr1'⟩:=aU q1 f.aeN.length h0;obtain⟨i,hi1,hin⟩:=aH (r1+f.aeN.length) f.aeN.length h0 (by omega);have hK:0<f.aeO.length->∃(r:Int) (k:Nat),q1.tmod (f.aeO.length:Int)=r/\ -(f.aeO.length:Int)<r/\r<f.aeO.length/\(r+f.aeO.length).tmod (f.aeO.length:Int)=(k:Int)/\k<f.aeO.length:=fun hp=>by
  obtain⟨r,ha,hb,hc⟩:=aU q1 f.aeO.length hp;obtain⟨k,hd,he⟩:=aH (r+f.aeO.length) f.aeO.length hp (by omega);exact⟨r,k,ha,hb,hc,hd,he⟩
 have HK:=hd0 hK;have bn:decide ((0:Int)<(f.aeN.length:Int))=true:=decide_eq_true (by omega);have ja:((100:Nat):Int)=100:=rfl;rw[ja] at ha2 hn2;clear hS hK ja i0 s1 s2 s3 s4 s5 s6 s7 s8;obtain⟨mm,hmm⟩:∃m:Int,(q0.tmod 16+16).tmod 16=m:=⟨_,rfl⟩
 rw[hmm] at hq;obtain⟨r0,hr0⟩:∃r:Int,q0.tmod 16=r/\ -16<r/\r<16:=aU q0 16 (by omega);obtain⟨ha0,hr1',vk⟩:=hr0;rw[ha0] at hmm;go_enter Tryd.func7,Tryd.ntmps7
 go_upto_if 39 with fail
 try clear hWf
 try clear qh
 try clear jW
 clear qA pU hrun1 hrun2 j2 ha2 hi1 ha1 bn;go_cut [9] from 40 to 50 (fun v wx=>∃k:Nat,v= .int .i64 k/\(0<f.aeO.length->k<f.aeO.length)/\Wl=wx)
 case first=>
  by_cases hp:0<f.aeO.length
  ·obtain⟨r,k,e1,e2,e3,e4,e5⟩:=HK.out hp;have bp:decide ((0:Int)<(f.aeO.length:Int))=true:=decide_eq_true (by omega);go_wp2_with fail
   go_meet
   exact⟨k,rfl,fun _=>e5,rfl⟩
  have bp:decide ((0:Int)<(f.aeO.length:Int))=false:=decide_eq_false (by omega);go_wp2_with fail
  go_meet
  exact⟨0,rfl,fun h=>absurd h hp,rfl⟩
 case rest=>
 obtain⟨k,rfl,hkl,rfl⟩:=hcut;clear HK j1
 go_upto_block 0 with fail
 try rw[hW1]
 clear vg vl hW1 pO fz3 pW pV j0 ha0 hmm;go_cut [] from 60 to 374 (fun wx=>∃(g:Fnt) (cs:List Value),TD w wx Wq.heap.size cs g/\afj g)
 case first=>
  have wP:=HT.out.low.size;have lC:Hid (Below w.heap.size w W1):=hd0 HT.out.low;obtain⟨x,D3,d3,D4,d4,D5,d5,D6,d6,D7,d7,D8,d8,hx,l4,l5,l6,l7,l8,hgr,t4,t5,t6,t7,t8⟩:=HT.out.aeT hin;have HX:=hd0 (HS.out.aeT x (agM hx.out));have vY:G<W1.heap.size:=by obtain⟨gc,iI,h1,-⟩:=HT.out.gB;exact h1.lt
  have T4:=hd0 t4;have T5:=hd0 t5;have T6:=hd0 t6;have T7:=hd0 t7;have T8:=hd0 t8;have bn:decide ((0:Int)<(f.aeN.length:Int))=true:=decide_eq_true (by omega);clear hgr t4 t5 t6 t7 t8;rcases hq with rfl|rfl
  ·obtain⟨v,ve,vl⟩:=aH (nn:Int) 10 (by omega) (by omega);rw[show((10:Nat):Int)=10 from rfl] at ve;by_cases hp:0<f.aeO.length
   ·have bp:decide ((0:Int)<(f.aeO.length:Int))=true:=decide_eq_true (by omega);have hkl2:=hkl hp;obtain⟨L,y,B2,e2,hA,hy,u2,u0,u3,JV,hLz,hLb,cur,hLk⟩:=HT.out.look hkl2;simp only at hA;subst hA;have HY:=hd0 (HS.out.big.look y (agM hy.out));have hfz:=hLz (k*3);have gu:=hd0 (HT.out.afi rfl hy.out (k:=0) (by decide) (.int .i64 (v:Int)) (fun cs hcs=>hcs.agp _ ⟨by omega,by omega⟩));have iD:=hd0 (HS.out.big.agf k (x:= {y with kind:=(v:Int)}) {HY.out with});have sv:=Bq 3 (by kernel_rfl);clear u2 u3 hLk hLz l4 l5 l6 l7 l8;go_wp2_with fail
    go_meet
    exact⟨_,_,gu.out,iD.out⟩
   have bp:decide ((0:Int)<(f.aeO.length:Int))=false:=decide_eq_false (by omega);have gu:=hd0 HT.out.td;clear l4 l5 l6 l7 l8;go_wp2_with fail
   go_meet
   exact⟨_,_,gu.out,HS.out.big⟩
  obtain⟨v5,v5e,v5l⟩:=aH (nn:Int) 5 (by omega) (by omega);rw[show((5:Nat):Int)=5 from rfl] at v5e;obtain⟨v7,v7e,v7l⟩:=aH (nn:Int) 7 (by omega) (by omega);rw[show((7:Nat):Int)=7 from rfl] at v7e;obtain⟨v6,v6e,v6l⟩:=aH (nn:Int) 6 (by omega) (by omega);rw[show((6:Nat):Int)=6 from rfl] at v6e;obtain⟨v2,v2e,v2l⟩:=aH (nn:Int) 2 (by omega) (by omega);rw[show((2:Nat):Int)=2 from rfl] at v2e;by_cases hp:0<f.aeO.length
  ·have bp:decide ((0:Int)<(f.aeO.length:Int))=true:=decide_eq_true (by omega);have hkl2:=hkl hp;obtain⟨L,y,B2,e2,hA,hy,u2,u0,u3,JV,hLz,hLb,cur,hLk⟩:=HT.out.look hkl2;simp only at hA;subst hA;have HY:=hd0 (HS.out.big.look y (agM hy.out));have hfew:=HS.out.look y (agM hy.out);unfold Few at hfew;obtain⟨Ap,cp,W2,c0,hrun,ho,hf0,hb2⟩:=gz (W:=W1) One.rule wU (by decide) u3 (c:=e2) hfew lC.out;have hld:(W1.alloc (.cells #[] bJ)).cell? ⟨L,k*3+2,none⟩=some (.slice B2 y.rules.length e2):=((aP ((agE W1.heap.size W1).alloc (ai _) _)).1 _ _ JV).trans u2;obtain⟨Wa,hWa,rq,iK⟩:=aB W2 aF #[.int .i64 (v5:Int),.int .i64 ((v7:Int)+1)];have Ih:=hb2.trans (rq.mono hb2.size);obtain⟨Wb,JA,Cb,qB⟩:=aB Wa tRow #[.slice (some ⟨W2.heap.size,0,none⟩) 2 2];have G6:=Ih.trans (Cb.mono Ih.size);have iK:=iK.bel Cb;obtain⟨Wc,hWc,wS,uq⟩:=aB Wb aF #[.int .i64 (v6:Int)];have GX:=G6.trans (wS.mono G6.size);have iK:=iK.bel wS;have qB:=qB.bel wS;have gK:=ho;have gK:=own_below gK rq;have gK:=own_below gK Cb;have gK:=own_below gK wS;obtain⟨Aq,cq,W4,hrun4,dS,hg4,-⟩:=bQ wU 58 Wc W1.heap.size _ cp Ap c0 #[.slice none 0 0,.slice (some ⟨Wa.heap.size,0,none⟩) 1 1,.slice none 0 0,.slice (some ⟨Wb.heap.size,0,none⟩) 1 1,.slice none 0 0,.int .i64 (v2:Int)] rfl gK (by simp[Value.oneCell']) (by omega) GX.size;have hb4:Below W1.heap.size W1 W4:=oP GX gK hg4;have h4:=HT.out.below hb4;have sp:Sp W1.heap.size bJ Wc W4:=Sp.push gK (ai _) hg4;have iK:=sp.bk iK (by decide);have qB:=sp.bk qB (by decide);have uq:=sp.bk uq (by decide);have uY:=hLk.bel hb4;have hSb:∀(b:Nat) (t:TypeId) (cs:Array Value),Bk W4 b t cs->t∈FO->t≠fD->Tf W4 b/\b≠L:=fun b t cs hk ht hne=>⟨⟨cs,t,hk,ht⟩,Bk.ne hk uY hne⟩
   have n1:=uf (S:=fun b=>Tf W4 b/\b≠L) iK [(v5:Int),(v7:Int)+1] rfl (fun x hx=>by simp at hx;rcases hx with rfl|rfl<;>exact⟨by omega,by omega⟩) (hSb _ _ _ iK (by decide) (by decide));have n2:=uf (S:=fun b=>Tf W4 b/\b≠L) uq [(v6:Int)] rfl (fun x hx=>by simp at hx;subst hx;exact⟨by omega,by omega⟩) (hSb _ _ _ uq (by decide) (by decide));have n3:=Cc (S:=fun b=>Tf W4 b/\b≠L) (R:=aeR) (size:=1) qB [(v5:Int),(v7:Int)+1] ⟨_,2,rfl,n1⟩ rfl (hSb _ _ _ qB (by decide) (by decide));have Og:ae8 W4 (fun b=>Tf W4 b/\b≠L) [.slice none 0 0,.slice (some ⟨Wa.heap.size,0,none⟩) 1 1,.slice none 0 0,.slice (some ⟨Wb.heap.size,0,none⟩) 1 1,.slice none 0 0,.int .i64 (v2:Int)] ⟨[],[[(v5:Int),(v7:Int)+1]],[],[(v6:Int)],[],(v2:Int)⟩:=⟨_,_,_,_,_,_,_,_,_,_,rfl,⟨by show _<=(v2:Int);omega,by show(v2:Int)<=_;omega⟩,Sl.nil,n3,Sl.nil,n2,Sl.nil⟩
   have hfz:W4.frozen? ⟨L,k*3+2,none⟩=false:=uY.frozen _;have qP:W4.cell? ⟨L,k*3+2,none⟩=some (.slice B2 y.rules.length e2):=((aP hb4).1 _ _ JV).trans u2;have hsn:=TC.more ae8.ok h4.low uY hLb dS hf0 (y:=(⟨[],[[(v5:Int),(v7:Int)+1]],[],[(v6:Int)],[],(v2:Int)⟩:ae4)) Og rfl (by decide) (by decide) (by decide);have gu:=hd0 (h4.afi rfl hy.out (k:=2) (by decide) (.slice Aq (y.rules.length+1) cq) (fun cs hcs=>hcs.af0 hsn (by simp)));have hrl:∀r∈y.rules++[(⟨[],[[(v5:Int),(v7:Int)+1]],[],[(v6:Int)],[],(v2:Int)⟩:ae4)],afS r/\∀s∈r.back++r.in'++r.ahead,Big s.length:=fun r hr=>by
    rw[agJ,agF] at hr;rcases hr with hr|rfl
    ·exact HY.out.rule r hr
    exact⟨⟨by show 0<=_;omega,by show 1<=_;omega,by show 0<=_;omega,by show 1<=_;omega,by show 0<=_;omega⟩,fun s hs=>by simp at hs;subst hs;show 2<=_;omega⟩
   have iD:=hd0 (HS.out.big.agf k (x:= {y with rules:=y.rules++[(⟨[],[[(v5:Int),(v7:Int)+1]],[],[(v6:Int)],[],(v2:Int)⟩:ae4)]}) {rules:=Few.snoc (l:=y.rules) hfew _,rule:=hrl});clear hrl;have sv:=aO 58 (by kernel_rfl);clear u0 u2 u3 hLk uY hLz l4 l5 l6 l7 l8 ho hf0 gK dS hg4 hb4 h4 sp hSb Og hsn hb2 iK rq Ih qB Cb G6 uq wS GX;go_wp2_with fail
   go_meet
   exact⟨_,_,gu.out,iD.out⟩
  have bp:decide ((0:Int)<(f.aeO.length:Int))=false:=decide_eq_false (by omega);have gu:=hd0 HT.out.td;clear l4 l5 l6 l7 l8;go_wp2_with fail
  go_meet
  exact⟨_,_,gu.out,HS.out.big⟩
 case rest=>
 obtain⟨g,cs,hT,hB⟩:=hcut;obtain⟨hst,hbk,hsz,hpo⟩:=hT.fin hB;have gV:=hd0 hbk;have qi:=hd0 hsz;have rH:=hd0 hpo;have fM:=hd0 hT.box;obtain⟨B1,e1,B2,e2,B3,e3,B4,e4,B5,e5,B6,e6,B7,e7,B8,e8,rfl,-⟩:=hT.fnt;obtain⟨k0,k1,k2,k3,k4,k5,k6,k7,k8⟩:=nine fM.out (agE _ _);clear hbk hsz hpo hT hB HT HS;go_wp2_with fail
 exact bodyPost_ret (fC gV.out qi.out) rfl rH.out
end
section
attribute [-go_sem] Builtin.append_
attribute [-go_sem] storeVar
theorem DX (w:World)(f:Fnt)(A1 A2 A3 A4 A5 A6 A7 A8:Option Addr)(c1 c2 c3 c4 c5 c6 c7 c8:Nat)(i0:I64 f.unit)(s1:Sl aeU 9 w (Tf w) A1 f.aeN)(s2:Sl afb 2 w (Tf w) A2 f.chars)(s3:Sl aeV 3 w (Tf w) A3 f.aeO)(s4:Sl aeW 2 w (Tf w) A4 f.features)(s5:Sl ae2 4 w (Tf w) A5 f.aeP)(s6:Sl aeY 1 w (Tf w) A6 f.regions)(s7:Sl ae1 1 w (Tf w) A7 f.funcs)(s8:Sl aeQ 1 w (Tf w) A8 f.cvt)(hS:afz f)(h0:0<f.aeN.length)(q0 q1 q2:Int)(hq:(q0.tmod 16+16).tmod 16=11\/(q0.tmod 16+16).tmod 16=14):Calls Tryd.prog 7 #[.agg #[.int .i64 f.unit,.slice A1 f.aeN.length c1,.slice A2 f.chars.length c2,.slice A3 f.aeO.length c3,.slice A4 f.features.length c4,.slice A5 f.aeP.length c5,.slice A6 f.regions.length c6,.slice A7 f.funcs.length c7,.slice A8 f.cvt.length c8],.agg #[.int .i64 q0,.int .i64 q1,.int .i64 q2]] w (jF w):=by
 obtain⟨Wf,Wq,Wr,Wg,Wl,W1,G,cg,cl,Al,hWf,qh,jW,hrun1,hrun2,qA,pU,pO,pW,fz3,pV,j2,j1,j0,hW1,HT⟩:=iQ w f A1 A2 A3 A4 A5 A6 A7 A8 c1 c2 c3 c4 c5 c6 c7 c8 i0 s1 s2 s3 s4 s5 s6 s7 s8 hS h0 q0 q1 q2;have b1:=hS.aeN;have b2:=hS.aeO;unfold Few at b1 b2;have HS:=hd0 hS;have vg:=aO 24 (by kernel_rfl);have vl:=aO 26 (by kernel_rfl);obtain⟨r2,ha2,hr2,hr2'⟩:=aU q2 100 (by omega);obtain⟨nn,hn2,nM⟩:=aH (r2+(100:Nat)) 100 (by omega) (by omega);obtain⟨r1,ha1,hr1,hr1'⟩:=aU q1 f.aeN.length h0;obtain⟨i,hi1,hin⟩:=aH (r1+f.aeN.length) f.aeN.length h0 (by omega);have hK:0<f.aeO.length->∃(r:Int) (k:Nat),q1.tmod (f.aeO.length:Int)=r/\ -(f.aeO.length:Int)<r/\r<f.aeO.length/\(r+f.aeO.length).tmod (f.aeO.length:Int)=(k:Int)/\k<f.aeO.length:=fun hp=>by
  obtain⟨r,ha,hb,hc⟩:=aU q1 f.aeO.length hp;obtain⟨k,hd,he⟩:=aH (r+f.aeO.length) f.aeO.length hp (by omega);exact⟨r,k,ha,hb,hc,hd,he⟩
 have HK:=hd0 hK;have bn:decide ((0:Int)<(f.aeN.length:Int))=true:=decide_eq_true (by omega);have ja:((100:Nat):Int)=100:=rfl;rw[ja] at ha2 hn2;clear hS hK ja i0 s1 s2 s3 s4 s5 s6 s7 s8;obtain⟨mm,hmm⟩:∃m:Int,(q0.tmod 16+16).tmod 16=m:=⟨_,rfl⟩
 rw[hmm] at hq;obtain⟨r0,hr0⟩:∃r:Int,q0.tmod 16=r/\ -16<r/\r<16:=aU q0 16 (by omega);obtain⟨ha0,hr1',vk⟩:=hr0;rw[ha0] at hmm;go_enter Tryd.func7,Tryd.ntmps7
 go_upto_if 39 with fail
 try clear hWf
 try clear qh
 try clear jW
 clear qA pU hrun1 hrun2 j2 ha2 hi1 ha1 bn;go_cut [9] from 40 to 50 (fun v wx=>∃k:Nat,v= .int .i64 k/\(0<f.aeO.length->k<f.aeO.length)/\Wl=wx)
 case first=>
  by_cases hp:0<f.aeO.length
  ·obtain⟨r,k,e1,e2,e3,e4,e5⟩:=HK.out hp;have bp:decide ((0:Int)<(f.aeO.length:Int))=true:=decide_eq_true (by omega);go_wp2_with fail
   go_meet
   exact⟨k,rfl,fun _=>e5,rfl⟩
  have bp:decide ((0:Int)<(f.aeO.length:Int))=false:=decide_eq_false (by omega);go_wp2_with fail
  go_meet
  exact⟨0,rfl,fun h=>absurd h hp,rfl⟩
 case rest=>
 obtain⟨k,rfl,hkl,rfl⟩:=hcut;clear HK j1
 go_upto_block 0 with fail
 try rw[hW1]
 clear vg vl hW1 pO fz3 pW pV j0 ha0 hmm;go_cut [] from 60 to 374 (fun wx=>∃(g:Fnt) (cs:List Value),TD w wx Wq.heap.size cs g/\afj g)
 case first=>
  have wP:=HT.out.low.size;have lC:Hid (Below w.heap.size w W1):=hd0 HT.out.low;obtain⟨x,D3,d3,D4,d4,D5,d5,D6,d6,D7,d7,D8,d8,hx,l4,l5,l6,l7,l8,hgr,t4,t5,t6,t7,t8⟩:=HT.out.aeT hin;have HX:=hd0 (HS.out.aeT x (agM hx.out));have vY:G<W1.heap.size:=by obtain⟨gc,iI,h1,-⟩:=HT.out.gB;exact h1.lt
  have T4:=hd0 t4;have T5:=hd0 t5;have T6:=hd0 t6;have T7:=hd0 t7;have T8:=hd0 t8;have bn:decide ((0:Int)<(f.aeN.length:Int))=true:=decide_eq_true (by omega);clear hgr t4 t5 t6 t7 t8;rcases hq with rfl|rfl
  ·obtain⟨v4,Pg,XD⟩:=aH (nn:Int) 4 (by omega) (by omega);rw[show((4:Nat):Int)=4 from rfl] at Pg;obtain⟨v8,v8e,v8l⟩:=aH (nn:Int) 8 (by omega) (by omega);rw[show((8:Nat):Int)=8 from rfl] at v8e;by_cases hp:0<f.aeO.length
   ·have bp:decide ((0:Int)<(f.aeO.length:Int))=true:=decide_eq_true (by omega);have hkl2:=hkl hp;obtain⟨L,y,B2,e2,hA,hy,u2,u0,u3,JV,hLz,hLb,cur,hLk⟩:=HT.out.look hkl2;simp only at hA;subst hA;have HY:=hd0 (HS.out.big.look y (agM hy.out));have hfew:=HS.out.look y (agM hy.out);unfold Few at hfew;obtain⟨Ap,cp,W2,c0,hrun,ho,hf0,hb2⟩:=gz (W:=W1) One.rule wU (by decide) u3 (c:=e2) hfew lC.out;have hld:(W1.alloc (.cells #[] bJ)).cell? ⟨L,k*3+2,none⟩=some (.slice B2 y.rules.length e2):=((aP ((agE W1.heap.size W1).alloc (ai _) _)).1 _ _ JV).trans u2;obtain⟨Wa,hWa,rq,iK⟩:=aB W2 aF #[.int .i64 0];have Ih:=hb2.trans (rq.mono hb2.size);obtain⟨Wb,JA,Cb,qB⟩:=aB Wa aF #[.int .i64 1];have G6:=Ih.trans (Cb.mono Ih.size);have iK:=iK.bel Cb;obtain⟨Wc,hWc,wS,uq⟩:=aB Wb tRow #[.slice (some ⟨W2.heap.size,0,none⟩) 1 1,.slice (some ⟨Wa.heap.size,0,none⟩) 1 1];have GX:=G6.trans (wS.mono G6.size);have iK:=iK.bel wS;have qB:=qB.bel wS;obtain⟨Wd,hWd,JW,NK⟩:=aB Wc pI #[.int .i64 ((v4:Int) - 1),.int .i64 ((v8:Int) - 1)];have XT:=GX.trans (JW.mono GX.size);have iK:=iK.bel JW;have qB:=qB.bel JW;have uq:=uq.bel JW;have gK:=ho;have gK:=own_below gK rq;have gK:=own_below gK Cb;have gK:=own_below gK wS;have gK:=own_below gK JW;obtain⟨Aq,cq,W4,hrun4,dS,hg4,-⟩:=bQ wU 58 Wd W1.heap.size _ cp Ap c0 #[.slice none 0 0,.slice (some ⟨Wb.heap.size,0,none⟩) 2 2,.slice none 0 0,.slice none 0 0,.slice (some ⟨Wc.heap.size,0,none⟩) 1 1,.int .i64 0] rfl gK (by simp[Value.oneCell']) (by omega) XT.size;have hb4:Below W1.heap.size W1 W4:=oP XT gK hg4;have h4:=HT.out.below hb4;have sp:Sp W1.heap.size bJ Wd W4:=Sp.push gK (ai _) hg4;have iK:=sp.bk iK (by decide);have qB:=sp.bk qB (by decide);have uq:=sp.bk uq (by decide);have NK:=sp.bk NK (by decide);have uY:=hLk.bel hb4;have hSb:∀(b:Nat) (t:TypeId) (cs:Array Value),Bk W4 b t cs->t∈FO->t≠fD->Tf W4 b/\b≠L:=fun b t cs hk ht hne=>⟨⟨cs,t,hk,ht⟩,Bk.ne hk uY hne⟩
    have n1:=uf (S:=fun b=>Tf W4 b/\b≠L) iK [0] rfl (fun x hx=>by simp at hx;subst hx;exact⟨by omega,by omega⟩) (hSb _ _ _ iK (by decide) (by decide));have n2:=uf (S:=fun b=>Tf W4 b/\b≠L) qB [1] rfl (fun x hx=>by simp at hx;subst hx;exact⟨by omega,by omega⟩) (hSb _ _ _ qB (by decide) (by decide));have n3:=Zj (S:=fun b=>Tf W4 b/\b≠L) (R:=aeR) uq [0] [1] ⟨_,1,rfl,n1⟩ ⟨_,1,rfl,n2⟩ (hSb _ _ _ uq (by decide) (by decide));have n4:=Cc (S:=fun b=>Tf W4 b/\b≠L) (R:=aff) (size:=2) NK ⟨(v4:Int) - 1,(v8:Int) - 1⟩ ⟨rfl,⟨by show _<=(v4:Int) - 1;omega,by show(v4:Int) - 1<=_;omega⟩,⟨by show _<=(v8:Int) - 1;omega,by show(v8:Int) - 1<=_;omega⟩⟩ rfl (hSb _ _ _ NK (by decide) (by decide));have Og:ae8 W4 (fun b=>Tf W4 b/\b≠L) [.slice none 0 0,.slice (some ⟨Wb.heap.size,0,none⟩) 2 2,.slice none 0 0,.slice none 0 0,.slice (some ⟨Wc.heap.size,0,none⟩) 1 1,.int .i64 0] ⟨[],[[0],[1]],[],[],[⟨(v4:Int) - 1,(v8:Int) - 1⟩],0⟩:=⟨_,_,_,_,_,_,_,_,_,_,rfl,⟨by show(_:Int)<=0;omega,by show(0:Int)<=_;omega⟩,Sl.nil,n3,Sl.nil,Sl.nil,n4⟩
    have hfz:W4.frozen? ⟨L,k*3+2,none⟩=false:=uY.frozen _;have qP:W4.cell? ⟨L,k*3+2,none⟩=some (.slice B2 y.rules.length e2):=((aP hb4).1 _ _ JV).trans u2;have hsn:=TC.more ae8.ok h4.low uY hLb dS hf0 (y:=(⟨[],[[0],[1]],[],[],[⟨(v4:Int) - 1,(v8:Int) - 1⟩],0⟩:ae4)) Og rfl (by decide) (by decide) (by decide);have gu:=hd0 (h4.afi rfl hy.out (k:=2) (by decide) (.slice Aq (y.rules.length+1) cq) (fun cs hcs=>hcs.af0 hsn (by simp)));have hrl:∀r∈y.rules++[(⟨[],[[0],[1]],[],[],[⟨(v4:Int) - 1,(v8:Int) - 1⟩],0⟩:ae4)],afS r/\∀s∈r.back++r.in'++r.ahead,Big s.length:=fun r hr=>by
     rw[agJ,agF] at hr;rcases hr with hr|rfl
     ·exact HY.out.rule r hr
     exact⟨⟨by show 0<=_;omega,by show 2<=_;omega,by show 0<=_;omega,by show 0<=_;omega,by show 1<=_;omega⟩,fun s hs=>by simp at hs;rcases hs with rfl|rfl<;>(show 1<=_;omega)⟩
    have iD:=hd0 (HS.out.big.agf k (x:= {y with rules:=y.rules++[(⟨[],[[0],[1]],[],[],[⟨(v4:Int) - 1,(v8:Int) - 1⟩],0⟩:ae4)]}) {rules:=Few.snoc (l:=y.rules) hfew _,rule:=hrl});clear hrl;have sv:=aO 58 (by kernel_rfl);clear u0 u2 u3 hLk uY hLz l4 l5 l6 l7 l8 ho hf0 gK dS hg4 hb4 h4 sp hSb Og hsn hb2 iK rq Ih qB Cb G6 uq wS GX NK JW XT;go_wp2_with fail
    go_meet
    exact⟨_,_,gu.out,iD.out⟩
   have bp:decide ((0:Int)<(f.aeO.length:Int))=false:=decide_eq_false (by omega);have gu:=hd0 HT.out.td;clear l4 l5 l6 l7 l8;go_wp2_with fail
   go_meet
   exact⟨_,_,gu.out,HS.out.big⟩
  obtain⟨v,ve,vl⟩:=aH (nn:Int) 5 (by omega) (by omega);rw[show((5:Nat):Int)=5 from rfl] at ve;have hfew:=HS.out.regs;unfold Few at hfew;obtain⟨Ap,cp,W2,c0,hrun,ho,hf0,hb2⟩:=gz (W:=W1) One.reg Au (by decide) HT.out.regs (c:=c6) hfew lC.out;have hld:(W1.alloc (.cells #[] mF)).cell? ⟨w.heap.size,6,none⟩=some (.slice A6 f.regions.length c6):=HT.out.box.at ((agE _ _).alloc (ai _) _) 6 rfl;obtain⟨Wa,hWa,rq,iK⟩:=aB W2 iO #[.int .i64 ((nn:Int) - 90),.int .i64 ((v:Int) - 2),.int .i64 64];have hbB:=hb2.trans (rq.mono hb2.size);have gK:=own_below ho rq;obtain⟨Aq,cq,W4,hrun4,dS,hg4,-⟩:=bQ Au 29 Wa W1.heap.size _ cp Ap c0 #[.slice (some ⟨W2.heap.size,0,none⟩) 1 1] rfl gK (by simp[Value.oneCell']) (by omega) hbB.size;have hb4:Below W1.heap.size W1 W4:=oP hbB gK hg4;have h4:=HT.out.below hb4;have iK:=(Sp.push gK (ai _) hg4:Sp W1.heap.size _ Wa W4).bk iK (by decide);have hfz:W4.frozen? ⟨w.heap.size,6,none⟩=_:=h4.box.frozen 6;have qP:W4.cell? ⟨w.heap.size,6,none⟩=some (.slice A6 f.regions.length c6):=h4.box.cell 6;have htd:=h4.td.field 6 (.slice Aq (f.regions.length+1) cq) (g':= {f with regions:=f.regions++[(⟨[⟨(nn:Int) - 90,(v:Int) - 2,64⟩]⟩:Region)]}) (by
   have hs:=mM aeY.ok dS hf0 h4.low (Tf.low h4.low) (y:=(⟨[⟨(nn:Int) - 90,(v:Int) - 2,64⟩]⟩:Region)) ⟨_,1,rfl,Cc (S:=Tf W4) (R:=afu) (size:=3) iK ⟨(nn:Int) - 90,(v:Int) - 2,64⟩ ⟨rfl,⟨by show _<=(nn:Int) - 90;omega,by show(nn:Int) - 90<=_;omega⟩,⟨by show _<=(v:Int) - 2;omega,by show(v:Int) - 2<=_;omega⟩,⟨by show _<=(64:Int);omega,by show(64:Int)<=_;omega⟩⟩ rfl ⟨_,_,iK,by decide⟩⟩ rfl (fun b cur hk _=>⟨cur,_,hk,by decide⟩) (by decide);obtain⟨B1,e1,B2,e2,B3,e3,B4,e4,B5,e5,B6,e6,B7,e7,B8,e8,e,i0,n1,n2,n3,n4,n5,n6,n7,n8⟩:=h4.td.fnt;rw[e];exact⟨B1,e1,B2,e2,B3,e3,B4,e4,B5,e5,Aq,cq,B7,e7,B8,e8,by simp,i0,n1,n2,n3,n4,n5,hs,n7,n8⟩)
  have gu:=hd0 htd;have hrl:∀r∈f.regions++[(⟨[⟨(nn:Int) - 90,(v:Int) - 2,64⟩]⟩:Region)],Big r.ae0.length:=fun r hr=>by
   rw[agJ,agF] at hr;rcases hr with hr|rfl
   ·exact HS.out.big.reg r hr
   show 1<=_;omega
  have iD:Hid (afj {f with regions:=f.regions++[(⟨[⟨(nn:Int) - 90,(v:Int) - 2,64⟩]⟩:Region)]}):=hd0 {HS.out.big with regs:=HS.out.regs.snoc _,reg:=hrl};have sv:=aO 29 (by kernel_rfl);clear hrl rq iK ho hf0 dS hg4 htd h4 hb2 hb4 l4 l5 l6 l7 l8 gK hbB;go_wp2_with fail
  go_meet
  exact⟨_,_,gu.out,iD.out⟩
 case rest=>
 obtain⟨g,cs,hT,hB⟩:=hcut;obtain⟨hst,hbk,hsz,hpo⟩:=hT.fin hB;have gV:=hd0 hbk;have qi:=hd0 hsz;have rH:=hd0 hpo;have fM:=hd0 hT.box;obtain⟨B1,e1,B2,e2,B3,e3,B4,e4,B5,e5,B6,e6,B7,e7,B8,e8,rfl,-⟩:=hT.fnt;obtain⟨k0,k1,k2,k3,k4,k5,k6,k7,k8⟩:=nine fM.out (agE _ _);clear hbk hsz hpo hT hB HT HS;go_wp2_with fail
 exact bodyPost_ret (fC gV.out qi.out) rfl rH.out
end
section
attribute [-go_sem] Builtin.append_
attribute [-go_sem] storeVar
theorem NZ (w:World)(f:Fnt)(A1 A2 A3 A4 A5 A6 A7 A8:Option Addr)(c1 c2 c3 c4 c5 c6 c7 c8:Nat)(i0:I64 f.unit)(s1:Sl aeU 9 w (Tf w) A1 f.aeN)(s2:Sl afb 2 w (Tf w) A2 f.chars)(s3:Sl aeV 3 w (Tf w) A3 f.aeO)(s4:Sl aeW 2 w (Tf w) A4 f.features)(s5:Sl ae2 4 w (Tf w) A5 f.aeP)(s6:Sl aeY 1 w (Tf w) A6 f.regions)(s7:Sl ae1 1 w (Tf w) A7 f.funcs)(s8:Sl aeQ 1 w (Tf w) A8 f.cvt)(hS:afz f)(h0:0<f.aeN.length)(q0 q1 q2:Int)(hq:(q0.tmod 16+16).tmod 16=15):Calls Tryd.prog 7 #[.agg #[.int .i64 f.unit,.slice A1 f.aeN.length c1,.slice A2 f.chars.length c2,.slice A3 f.aeO.length c3,.slice A4 f.features.length c4,.slice A5 f.aeP.length c5,.slice A6 f.regions.length c6,.slice A7 f.funcs.length c7,.slice A8 f.cvt.length c8],.agg #[.int .i64 q0,.int .i64 q1,.int .i64 q2]] w (jF w):=by
 obtain⟨Wf,Wq,Wr,Wg,Wl,W1,G,cg,cl,Al,hWf,qh,jW,hrun1,hrun2,qA,pU,pO,pW,fz3,pV,j2,j1,j0,hW1,HT⟩:=iQ w f A1 A2 A3 A4 A5 A6 A7 A8 c1 c2 c3 c4 c5 c6 c7 c8 i0 s1 s2 s3 s4 s5 s6 s7 s8 hS h0 q0 q1 q2;have b1:=hS.aeN;have b2:=hS.aeO;unfold Few at b1 b2;have HS:=hd0 hS;have vg:=aO 24 (by kernel_rfl);have vl:=aO 26 (by kernel_rfl);obtain⟨r2,ha2,hr2,hr2'⟩:=aU q2 100 (by omega);obtain⟨nn,hn2,nM⟩:=aH (r2+(100:Nat)) 100 (by omega) (by omega);obtain⟨r1,ha1,hr1,hr1'⟩:=aU q1 f.aeN.length h0;obtain⟨i,hi1,hin⟩:=aH (r1+f.aeN.length) f.aeN.length h0 (by omega);have hK:0<f.aeO.length->∃(r:Int) (k:Nat),q1.tmod (f.aeO.length:Int)=r/\ -(f.aeO.length:Int)<r/\r<f.aeO.length/\(r+f.aeO.length).tmod (f.aeO.length:Int)=(k:Int)/\k<f.aeO.length:=fun hp=>by
  obtain⟨r,ha,hb,hc⟩:=aU q1 f.aeO.length hp;obtain⟨k,hd,he⟩:=aH (r+f.aeO.length) f.aeO.length hp (by omega);exact⟨r,k,ha,hb,hc,hd,he⟩
 have HK:=hd0 hK;have bn:decide ((0:Int)<(f.aeN.length:Int))=true:=decide_eq_true (by omega);have ja:((100:Nat):Int)=100:=rfl;rw[ja] at ha2 hn2;clear hS hK ja i0 s1 s2 s3 s4 s5 s6 s7 s8;obtain⟨mm,hmm⟩:∃m:Int,(q0.tmod 16+16).tmod 16=m:=⟨_,rfl⟩
 rw[hmm] at hq;obtain⟨r0,hr0⟩:∃r:Int,q0.tmod 16=r/\ -16<r/\r<16:=aU q0 16 (by omega);obtain⟨ha0,hr1',vk⟩:=hr0;rw[ha0] at hmm;go_enter Tryd.func7,Tryd.ntmps7
 go_upto_if 39 with fail
 try clear hWf
 try clear qh
 try clear jW
 clear qA pU hrun1 hrun2 j2 ha2 hi1 ha1 bn;go_cut [9] from 40 to 50 (fun v wx=>∃k:Nat,v= .int .i64 k/\(0<f.aeO.length->k<f.aeO.length)/\Wl=wx)
 case first=>
  by_cases hp:0<f.aeO.length
  ·obtain⟨r,k,e1,e2,e3,e4,e5⟩:=HK.out hp;have bp:decide ((0:Int)<(f.aeO.length:Int))=true:=decide_eq_true (by omega);go_wp2_with fail
   go_meet
   exact⟨k,rfl,fun _=>e5,rfl⟩
  have bp:decide ((0:Int)<(f.aeO.length:Int))=false:=decide_eq_false (by omega);go_wp2_with fail
  go_meet
  exact⟨0,rfl,fun h=>absurd h hp,rfl⟩
 case rest=>
 obtain⟨k,rfl,hkl,rfl⟩:=hcut;clear HK j1
 go_upto_block 0 with fail
 try rw[hW1]
 clear vg vl hW1 pO fz3 pW pV j0 ha0 hmm;go_cut [] from 60 to 374 (fun wx=>∃(g:Fnt) (cs:List Value),TD w wx Wq.heap.size cs g/\afj g)
 case first=>
  have wP:=HT.out.low.size;have lC:Hid (Below w.heap.size w W1):=hd0 HT.out.low;obtain⟨x,D3,d3,D4,d4,D5,d5,D6,d6,D7,d7,D8,d8,hx,l4,l5,l6,l7,l8,hgr,t4,t5,t6,t7,t8⟩:=HT.out.aeT hin;have HX:=hd0 (HS.out.aeT x (agM hx.out));have vY:G<W1.heap.size:=by obtain⟨gc,iI,h1,-⟩:=HT.out.gB;exact h1.lt
  have T4:=hd0 t4;have T5:=hd0 t5;have T6:=hd0 t6;have T7:=hd0 t7;have T8:=hd0 t8;have bn:decide ((0:Int)<(f.aeN.length:Int))=true:=decide_eq_true (by omega);clear hgr t4 t5 t6 t7 t8;subst hq;obtain⟨v,ve,vl⟩:=aH (nn:Int) 42 (by omega) (by omega);rw[show((42:Nat):Int)=42 from rfl] at ve;have hfew:=HS.out.funcs;unfold Few at hfew;obtain⟨Ap,cp,W2,c0,hrun,ho,hf0,hb2⟩:=gz (W:=W1) One.code Jb (by decide) HT.out.funcs (c:=c7) hfew lC.out;have hld:(W1.alloc (.cells #[] yF)).cell? ⟨w.heap.size,7,none⟩=some (.slice A7 f.funcs.length c7):=HT.out.box.at ((agE _ _).alloc (ai _) _) 7 rfl;obtain⟨Wa,hWa,rq,iK⟩:=aB W2 kN #[.int .i64 (v:Int),.int .i64 (nn:Int)];have hbB:=hb2.trans (rq.mono hb2.size);have gK:=own_below ho rq;obtain⟨Aq,cq,W4,hrun4,dS,hg4,-⟩:=bQ Jb 30 Wa W1.heap.size _ cp Ap c0 #[.slice (some ⟨W2.heap.size,0,none⟩) 1 1] rfl gK (by simp[Value.oneCell']) (by omega) hbB.size;have hb4:Below W1.heap.size W1 W4:=oP hbB gK hg4;have h4:=HT.out.below hb4;have iK:=(Sp.push gK (ai _) hg4:Sp W1.heap.size _ Wa W4).bk iK (by decide);have hfz:W4.frozen? ⟨w.heap.size,7,none⟩=_:=h4.box.frozen 7;have qP:W4.cell? ⟨w.heap.size,7,none⟩=some (.slice A7 f.funcs.length c7):=h4.box.cell 7;have htd:=h4.td.field 7 (.slice Aq (f.funcs.length+1) cq) (g':= {f with funcs:=f.funcs++[[(⟨(v:Int),(nn:Int)⟩:Ins)]]}) (by
   have hs:=mM ae1.ok dS hf0 h4.low (Tf.low h4.low) (y:=[(⟨(v:Int),(nn:Int)⟩:Ins)]) ⟨_,1,rfl,Cc (S:=Tf W4) (R:=ae9) (size:=2) iK ⟨(v:Int),(nn:Int)⟩ ⟨rfl,⟨by show _<=(v:Int);omega,by show(v:Int)<=_;omega⟩,⟨by show _<=(nn:Int);omega,by show(nn:Int)<=_;omega⟩⟩ rfl ⟨_,_,iK,by decide⟩⟩ rfl (fun b cur hk _=>⟨cur,_,hk,by decide⟩) (by decide);obtain⟨B1,e1,B2,e2,B3,e3,B4,e4,B5,e5,B6,e6,B7,e7,B8,e8,e,i0,n1,n2,n3,n4,n5,n6,n7,n8⟩:=h4.td.fnt;rw[e];exact⟨B1,e1,B2,e2,B3,e3,B4,e4,B5,e5,B6,e6,Aq,cq,B8,e8,by simp,i0,n1,n2,n3,n4,n5,n6,hs,n8⟩)
  obtain⟨W5,lV⟩:∃x,W4.setCell ⟨w.heap.size,7,none⟩ (.slice Aq (f.funcs.length+1) cq)=x:=⟨_,rfl⟩
  rw[lV] at htd;have hfw:=HS.out.cvt;unfold Few at hfw;obtain⟨Ar,cr,W6,c9,hrun6,VX,hf6,hb6⟩:=gz (W:=W5) One.int ku (by decide) HT.out.cvt (c:=c8) hfw htd.low;obtain⟨At,ct,W8,hrun8,ho8,Po,-⟩:=bQ ku 22 W6 W5.heap.size _ cr Ar c9 #[.int .i64 (((nn:Int) - 50)*400)] rfl VX (by simp[Value.oneCell']) (by omega) hb6.size;have hb8:Below W5.heap.size W5 W8:=oP hb6 VX Po;have h8:=htd.below hb8;have adx:(W5.alloc (.cells #[] aF)).cell? ⟨w.heap.size,8,none⟩=some (.slice A8 f.cvt.length c8):=Bk.at htd.box ((agE _ _).alloc (ai _) _) 8 rfl;have aeu:W8.frozen? ⟨w.heap.size,8,none⟩=_:=h8.box.frozen 8;have adi:W8.cell? ⟨w.heap.size,8,none⟩=some (.slice A8 f.cvt.length c8):=h8.box.cell 8;have XO:=h8.field 8 (.slice At (f.cvt.length+1) ct) (g':= {f with funcs:=f.funcs++[[(⟨(v:Int),(nn:Int)⟩:Ins)]],cvt:=f.cvt++[((nn:Int) - 50)*400]}) (by
   have hs:=mM aeQ.ok ho8 hf6 h8.low (Tf.low h8.low) (y:=((nn:Int) - 50)*400) ⟨rfl,⟨by show _<=((nn:Int) - 50)*400;omega,by show((nn:Int) - 50)*400<=_;omega⟩⟩ rfl (fun b cur hk _=>⟨cur,_,hk,by decide⟩) (by decide);obtain⟨B1,e1,B2,e2,B3,e3,B4,e4,B5,e5,B6,e6,B7,e7,B8,e8,e,i0,n1,n2,n3,n4,n5,n6,n7,n8⟩:=h8.fnt;rw[e];exact⟨B1,e1,B2,e2,B3,e3,B4,e4,B5,e5,B6,e6,B7,e7,At,ct,by simp,i0,n1,n2,n3,n4,n5,n6,n7,hs⟩)
  have gu:=hd0 XO;have hrl:∀r∈f.funcs++[[(⟨(v:Int),(nn:Int)⟩:Ins)]],Big r.length:=fun r hr=>by
   rw[agJ,agF] at hr;rcases hr with hr|rfl
   ·exact HS.out.big.func r hr
   show 1<=_;omega
  have iD:Hid (afj {f with funcs:=f.funcs++[[(⟨(v:Int),(nn:Int)⟩:Ins)]],cvt:=f.cvt++[((nn:Int) - 50)*400]}):=hd0 {HS.out.big with funcs:=HS.out.funcs.snoc _,cvt:=HS.out.cvt.snoc _,func:=hrl};have sv:=aO 30 (by kernel_rfl);have sv8:=aO 22 (by kernel_rfl);clear hrl rq iK ho hf0 dS hg4 htd h4 hb2 hb4 l4 l5 l6 l7 l8 gK hbB VX hf6 ho8 Po hb8 h8 XO hb6;go_wp2_with fail
  try clear lV
  go_meet
  exact⟨_,_,gu.out,iD.out⟩
 case rest=>
 obtain⟨g,cs,hT,hB⟩:=hcut;obtain⟨hst,hbk,hsz,hpo⟩:=hT.fin hB;have gV:=hd0 hbk;have qi:=hd0 hsz;have rH:=hd0 hpo;have fM:=hd0 hT.box;obtain⟨B1,e1,B2,e2,B3,e3,B4,e4,B5,e5,B6,e6,B7,e7,B8,e8,rfl,-⟩:=hT.fnt;obtain⟨k0,k1,k2,k3,k4,k5,k6,k7,k8⟩:=nine fM.out (agE _ _);clear hbk hsz hpo hT hB HT HS;go_wp2_with fail
 exact bodyPost_ret (fC gV.out qi.out) rfl rH.out
end
end Go.Proofs.YtkijckccfookeaaDoor
