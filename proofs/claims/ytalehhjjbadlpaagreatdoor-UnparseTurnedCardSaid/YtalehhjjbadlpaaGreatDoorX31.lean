/- Lemmas. -/
import Derived.Test.YtalehhjjbadlpaaGreatDoorX29
set_option linter.all false
set_option maxRecDepth 100000
set_option maxHeartbeats 32000000
namespace Go.Proofs.YtalehhjjbadlpaaGreatDoor
open Go.RowKit
variable{i:List Value}{e b:Nat}{h a:World}(v:World){m:Option Addr}{t:Array Value}{u:iu}
section
attribute [-go_sem] Builtin.append_
attribute [-go_sem] storeVar
theorem PX (f:iu)(A1 A2 A3 A4 A5 A6 A7 A8:Option Addr)(c1 c2 c3 c4 c5 c6 c7 c8:Nat)(i0:gN f.gt)(s1:Sl iA 9 v (Tf v) A1 f.ga)(s2:Sl kO 2 v (Tf v) A2 f.f6)(s3:Sl jn 3 v (Tf v) A3 f.ge)(s4:Sl kn 2 v (Tf v) A4 f.a')(s5:Sl kI 4 v (Tf v) A5 f.gM)(s6:Sl ko 1 v (Tf v) A6 f.d')(s7:Sl kx 1 v (Tf v) A7 f.fY)(s8:Sl gS 1 v (Tf v) A8 f.gP)(Z:pD f)(h0:0<f.ga.length)(F q1 q2:Int)(hq:(F.tmod 16+16).tmod 16=9\/(F.tmod 16+16).tmod 16=10):Calls Tryz.prog 4 #[.agg #[f.gt,A1 f.ga.length c1,A2 f.f6.length c2,A3 f.ge.length c3,A4 f.a'.length c4,A5 f.gM.length c5,A6 f.d'.length c6,A7 f.fY.length c7,A8 f.gP.length c8],.agg #[F,q1,q2]] v (ny v):=by
 obtain⟨Wf,Wq,Wr,Wg,Wl,n,G,cg,cl,Al,aD,xN,oC,H,I,xR,xU,xJ,xH,aE,xI,j2,j1,j0,aa,a⟩:=kW v f A1 A2 A3 A4 A5 A6 A7 A8 c1 c2 c3 c4 c5 c6 c7 c8 i0 s1 s2 s3 s4 s5 s6 s7 s8 Z h0 F q1 q2;have b1:=Z.ga;have b2:=Z.ge;unfold ki at b1 b2;have p:=J Z;have vg:=bG 24 (by kernel_rfl);have vl:=bG 26 (by kernel_rfl);obtain⟨r2,ab,ba,a8⟩:=bJ q2 100 (by omega);obtain⟨nn,aL,uY⟩:=aY (r2+(100:Nat)) 100 (by omega) (by omega);obtain⟨r1,aM,bb,ac⟩:=bJ q1 f.ga.length h0;obtain⟨i,aN,aQ⟩:=aY (r1+f.ga.length) f.ga.length h0 (by omega);have hK:0<f.ge.length->∃(r:Int) (k:Nat),q1.tmod (f.ge.length:Int)=r/\ -(f.ge.length:Int)<r/\r<f.ge.length/\(r+f.ge.length).tmod (f.ge.length:Int)=(k:Int)/\k<f.ge.length:=λq=>by
  obtain⟨r,ha,hb,hc⟩:=bJ q1 f.ge.length q;obtain⟨k,hd,he⟩:=aY (r+f.ge.length) f.ge.length q (by omega);exact⟨r,k,ha,hb,hc,hd,he⟩
 have HK:=J hK;have bn:decide ((0:Int)<(f.ga.length:Int))=true:=decide_eq_true (by omega);have lh:((100:Nat):Int)=100:=rfl;rw[lh]at ab aL;clear Z hK lh i0 s1 s2 s3 s4 s5 s6 s7 s8;obtain⟨mm,bo⟩:∃m:Int,(F.tmod 16+16).tmod 16=m:=⟨_,rfl⟩
 rw[bo]at hq;obtain⟨r0,aR⟩:∃r:Int,F.tmod 16=r/\ -16<r/\r<16:=bJ F 16 (by omega);obtain⟨ad,ac,DD⟩:=aR;rw[ad]at bo;go_enter Tryz.func4,Tryz.ntmps4
 go_upto_if 39 with fail
 try clear aD
 try clear xN
 try clear oC
 clear xR xU H I j2 ab aN aM bn;go_cut [9]from 40 to 50 (λw wx=>∃k:Nat,w=.int .i64 k/\(0<f.ge.length->k<f.ge.length)/\Wl=wx)
 case first=>
  by_cases q:0<f.ge.length
  .obtain⟨r,k,e1,V,e3,e4,e5⟩:=HK q;have bp:decide ((0:Int)<(f.ge.length:Int))=true:=decide_eq_true (by omega);go_wp2_with fail
   go_meet
   exact⟨k,rfl,λ_=>e5,rfl⟩
  have bp:decide ((0:Int)<(f.ge.length:Int))=false:=decide_eq_false (by omega);go_wp2_with fail
  go_meet
  exact⟨0,rfl,λh=>absurd h q,rfl⟩
 case rest=>
 obtain⟨k,rfl,ak,rfl⟩:=hcut;clear HK j1
 go_upto_block 0 with fail
 try rw[aa]
 clear vg vl aa xJ aE xH xI j0 ad bo;go_cut []from 60 to 374 (λwx=>∃(g:iu) (D:List Value),TD v wx Wq.heap.size D g/\mp g)
 case first=>
  have FW:=a.low.size;have qQ:Hid (Below v v n):=J a.low;obtain⟨x,D3,d3,D4,d4,D5,d5,D6,d6,D7,d7,D8,d8,K,l4,l5,l6,l7,l8,aW,t4,t5,t6,t7,t8⟩:=a.z aQ;have HX:=J (p.z x (kj K));have EC:G<n.heap.size:=by obtain⟨gc,kD,h1,-⟩:=a.K;exact h1.lt
  have T4:=J t4;have T5:=J t5;have T6:=J t6;have T7:=J t7;have T8:=J t8;have bn:decide ((0:Int)<(f.ga.length:Int))=true:=decide_eq_true (by omega);clear aW t4 t5 t6 t7 t8;rcases hq with rfl|rfl
  .obtain⟨w,ve,vl⟩:=aY (nn:Int) 10 (by omega) (by omega);rw[show((10:Nat):Int)=10 from rfl]at ve;by_cases q:0<f.ge.length
   .have bp:decide ((0:Int)<(f.ge.length:Int))=true:=decide_eq_true (by omega);have d:=ak q;obtain⟨L,y,B2,V,hA,X,u2,u0,u3,Wv,u,al,a0,z⟩:=a.look d;simp only at hA;subst hA;have HY:=J (p.T.look y (kj X));have a1:=u (k*3);have M:=J (a.nl rfl X (k:=0) (by decide) (.int .i64 (w:Int)) (λD N=>N.Y' _ ⟨by omega,by omega⟩));have jR:=J (p.T.xv k (x:= {y with gd:=(w:Int)}) {HY with});have sv:=MO 3 (by kernel_rfl);clear u2 u3 z u l4 l5 l6 l7 l8;go_wp2_with fail
    go_meet
    exact⟨_,_,M,jR⟩
   have bp:decide ((0:Int)<(f.ge.length:Int))=false:=decide_eq_false (by omega);have M:=J a.td;clear l4 l5 l6 l7 l8;go_wp2_with fail
   go_meet
   exact⟨_,_,M,p.T⟩
  obtain⟨O,a2,bc⟩:=aY (nn:Int) 5 (by omega) (by omega);rw[show((5:Nat):Int)=5 from rfl]at a2;obtain⟨P,a3,bd⟩:=aY (nn:Int) 7 (by omega) (by omega);rw[show((7:Nat):Int)=7 from rfl]at a3;obtain⟨Y,a4,bf⟩:=aY (nn:Int) 6 (by omega) (by omega);rw[show((6:Nat):Int)=6 from rfl]at a4;obtain⟨E,a5,bg⟩:=aY (nn:Int) 2 (by omega) (by omega);rw[show((2:Nat):Int)=2 from rfl]at a5;by_cases q:0<f.ge.length
  .have bp:decide ((0:Int)<(f.ge.length:Int))=true:=decide_eq_true (by omega);have d:=ak q;obtain⟨L,y,B2,V,hA,X,u2,u0,u3,Wv,u,al,a0,z⟩:=a.look d;simp only at hA;subst hA;have HY:=J (p.T.look y (kj X));have e:=p.look y (kj X);unfold ki at e;obtain⟨Ap,cp,W2,c0,a9,ho,ao,Q⟩:=jC (W:=n) One.X zu (by decide) u3 (c:=V) e qQ;have bh:(n.alloc (.cells #[] dD)).cell? (L,k*3+2)=some (B2 y.gC.length V):=((aj ((gD n.heap.size n).alloc (ae _) _)).1 _ _ Wv).trans u2;obtain⟨Wa,bj,zh,A⟩:=aO W2 aK #[.int .i64 (O:Int),.int .i64 ((P:Int)+1)];have TM:=Q.trans (zh.mono Q.size);obtain⟨Wb,WA,Lr,T⟩:=aO Wa kl #[.slice (W2,0) 2 2];have TN:=TM.trans (Lr.mono TM.size);have A:=A.l Lr;obtain⟨Wc,bl,EX,BR⟩:=aO Wb aK #[.int .i64 (Y:Int)];have TP:=TN.trans (EX.mono TN.size);have A:=A.l EX;have T:=T.l EX;have o:=ho;have o:=gj o zh;have o:=gj o Lr;have o:=gj o EX;obtain⟨Aq,cq,j,a6,bW,U,-⟩:=dJ zu 63 Wc n.heap.size _ cp Ap c0 #[(),.slice (Wa,0) 1 1,(),.slice (Wb,0) 1 1,(),.int .i64 (E:Int)] rfl o (by simp[Value.oneCell']) (by omega) TP.size;have B:Below n n j:=wL TP o U;have h4:=a.below B;have sp:Sp n.heap.size dD Wc j:=Sp.push o (ae _) U;have A:=sp.bk A (by decide);have T:=sp.bk T (by decide);have BR:=sp.bk BR (by decide);have Dq:=z.l B;have C:∀(b:Nat) (t:TypeId) (D:Array Value),Bk j b t D->t∈UN->t≠ja->Tf j b/\b≠L:=λb t D hk ht a7=>⟨⟨D,t,hk,ht⟩,Bk.ne hk Dq a7⟩
   have n1:=Cb (S:=λb=>Tf j b/\b≠L) A [(O:Int),(P:Int)+1] rfl (λx K=>by simp at K;rcases K with rfl|rfl<;>exact⟨by omega,by omega⟩) (C _ _ _ A (by decide) (by decide));have n2:=Cb (S:=λb=>Tf j b/\b≠L) BR [(Y:Int)] rfl (λx K=>by simp at K;subst K;exact⟨by omega,by omega⟩) (C _ _ _ BR (by decide) (by decide));have n3:=Mc (S:=λb=>Tf j b/\b≠L) (R:=gT) (size:=1) T [(O:Int),(P:Int)+1] ⟨_,2,rfl,n1⟩ rfl (C _ _ _ T (by decide) (by decide));have ap:lj j (λb=>Tf j b/\b≠L) [.slice none 0 0,.slice (Wa,0) 1 1,.slice none 0 0,.slice (Wb,0) 1 1,.slice none 0 0,.int .i64 (E:Int)] ⟨[],[[(O:Int),(P:Int)+1]],[],[(Y:Int)],[],(E:Int)⟩:=⟨_,_,_,_,_,_,_,_,_,_,rfl,⟨by show _<=(E:Int);omega,by show(E:Int)<=_;omega⟩,Sl.nil,n3,Sl.nil,n2,Sl.nil⟩
   have a1:j.frozen? (L,k*3+2)=false:=Dq.frozen _;have zI:j.cell? (L,k*3+2)=some (B2 y.gC.length V):=((aj B).1 _ _ Wv).trans u2;have aq:=TC.more lj.ok h4.low Dq al bW ao (y:=(⟨[],[[(O:Int),(P:Int)+1]],[],[(Y:Int)],[],(E:Int)⟩:k')) ap rfl (by decide) (by decide) (by decide);have M:=J (h4.nl rfl X (k:=2) (by decide) (Aq (y.gC.length+1) cq) (λD N=>N.Bu aq (by simp)));have ar:∀r∈y.gC++[(⟨[],[[(O:Int),(P:Int)+1]],[],[(Y:Int)],[],(E:Int)⟩:k')],sy r/\∀s∈r.gE++r.ij++r.ahead,ip s.length:=λr hr=>by
    rw[jp,js]at hr;rcases hr with hr|rfl
    .exact HY.X r hr
    exact⟨⟨by show 0<=_;omega,by show 1<=_;omega,by show 0<=_;omega,by show 1<=_;omega,by show 0<=_;omega⟩,λs hs=>by simp at hs;subst hs;show 2<=_;omega⟩
   have jR:=J (p.T.xv k (x:= {y with gC:=y.gC++[(⟨[],[[(O:Int),(P:Int)+1]],[],[(Y:Int)],[],(E:Int)⟩:k')]}) {gC:=ki.snoc (l:=y.gC) e _,X:=ar});clear ar;have sv:=bG 63 (by kernel_rfl);clear u0 u2 u3 z Dq u l4 l5 l6 l7 l8 ho ao o bW U B h4 sp C ap aq Q A zh TM T Lr TN BR EX TP;go_wp2_with fail
   go_meet
   exact⟨_,_,M,jR⟩
  have bp:decide ((0:Int)<(f.ge.length:Int))=false:=decide_eq_false (by omega);have M:=J a.td;clear l4 l5 l6 l7 l8;go_wp2_with fail
  go_meet
  exact⟨_,_,M,p.T⟩
 case rest=>
 obtain⟨g,D,hT,hB⟩:=hcut;obtain⟨bm,av,aw,ay⟩:=hT.fin hB;have eX:=J av;have rO:=J aw;have xC:=J ay;have gV:=J hT.box;obtain⟨B1,e1,B2,V,B3,e3,B4,e4,B5,e5,B6,e6,B7,e7,B8,e8,rfl,-⟩:=hT.D;obtain⟨k0,k1,k2,k3,k4,k5,k6,k7,k8⟩:=nine gV (gD _ _);clear av aw ay hT hB a p;go_wp2_with fail
 exact bodyPost_ret (iV eX rO) rfl xC
theorem PY (f:iu)(A1 A2 A3 A4 A5 A6 A7 A8:Option Addr)(c1 c2 c3 c4 c5 c6 c7 c8:Nat)(i0:gN f.gt)(s1:Sl iA 9 v (Tf v) A1 f.ga)(s2:Sl kO 2 v (Tf v) A2 f.f6)(s3:Sl jn 3 v (Tf v) A3 f.ge)(s4:Sl kn 2 v (Tf v) A4 f.a')(s5:Sl kI 4 v (Tf v) A5 f.gM)(s6:Sl ko 1 v (Tf v) A6 f.d')(s7:Sl kx 1 v (Tf v) A7 f.fY)(s8:Sl gS 1 v (Tf v) A8 f.gP)(hS:pD f)(h0:0<f.ga.length)(N q1 q2:Int)(hq:(N.tmod 16+16).tmod 16=11\/(N.tmod 16+16).tmod 16=14):Calls Tryz.prog 4 #[.agg #[f.gt,A1 f.ga.length c1,A2 f.f6.length c2,A3 f.ge.length c3,A4 f.a'.length c4,A5 f.gM.length c5,A6 f.d'.length c6,A7 f.fY.length c7,A8 f.gP.length c8],.agg #[N,q1,q2]] v (ny v):=by
 obtain⟨Wf,Wq,Wr,Wg,Wl,o,G,cg,cl,Al,aN,xN,oC,O,P,xR,xU,xJ,xH,aQ,xI,j2,j1,j0,ad,z⟩:=kW v f A1 A2 A3 A4 A5 A6 A7 A8 c1 c2 c3 c4 c5 c6 c7 c8 i0 s1 s2 s3 s4 s5 s6 s7 s8 hS h0 N q1 q2;have b1:=hS.ga;have b2:=hS.ge;unfold ki at b1 b2;have H:=J hS;have vg:=bG 24 (by kernel_rfl);have vl:=bG 26 (by kernel_rfl);obtain⟨r2,ak,bg,bf⟩:=bJ q2 100 (by omega);obtain⟨A,aR,uY⟩:=aY (r2+(100:Nat)) 100 (by omega) (by omega);obtain⟨r1,aW,bh,al⟩:=bJ q1 f.ga.length h0;obtain⟨i,a0,a1⟩:=aY (r1+f.ga.length) f.ga.length h0 (by omega);have hK:0<f.ge.length->∃(r:Int) (k:Nat),q1.tmod (f.ge.length:Int)=r/\ -(f.ge.length:Int)<r/\r<f.ge.length/\(r+f.ge.length).tmod (f.ge.length:Int)=(k:Int)/\k<f.ge.length:=λQ=>by
  obtain⟨r,ha,hb,hc⟩:=bJ q1 f.ge.length Q;obtain⟨k,hd,he⟩:=aY (r+f.ge.length) f.ge.length Q (by omega);exact⟨r,k,ha,hb,hc,hd,he⟩
 have HK:=J hK;have bn:decide ((0:Int)<(f.ga.length:Int))=true:=decide_eq_true (by omega);have lh:((100:Nat):Int)=100:=rfl;rw[lh]at ak aR;clear hS hK lh i0 s1 s2 s3 s4 s5 s6 s7 s8;obtain⟨mm,T⟩:∃m:Int,(N.tmod 16+16).tmod 16=m:=⟨_,rfl⟩
 rw[T]at hq;obtain⟨r0,a2⟩:∃r:Int,N.tmod 16=r/\ -16<r/\r<16:=bJ N 16 (by omega);obtain⟨ao,al,DD⟩:=a2;rw[ao]at T;go_enter Tryz.func4,Tryz.ntmps4
 go_upto_if 39 with fail
 try clear aN
 try clear xN
 try clear oC
 clear xR xU O P j2 ak a0 aW bn;go_cut [9]from 40 to 50 (λw wx=>∃k:Nat,w=.int .i64 k/\(0<f.ge.length->k<f.ge.length)/\Wl=wx)
 case first=>
  by_cases Q:0<f.ge.length
  .obtain⟨r,k,e1,U,e3,e4,e5⟩:=HK Q;have bp:decide ((0:Int)<(f.ge.length:Int))=true:=decide_eq_true (by omega);go_wp2_with fail
   go_meet
   exact⟨k,rfl,λ_=>e5,rfl⟩
  have bp:decide ((0:Int)<(f.ge.length:Int))=false:=decide_eq_false (by omega);go_wp2_with fail
  go_meet
  exact⟨0,rfl,λh=>absurd h Q,rfl⟩
 case rest=>
 obtain⟨k,rfl,a3,rfl⟩:=hcut;clear HK j1
 go_upto_block 0 with fail
 try rw[ad]
 clear vg vl ad xJ aQ xH xI j0 ao T;go_cut []from 60 to 374 (λwx=>∃(g:iu) (V:List Value),TD v wx Wq.heap.size V g/\mp g)
 case first=>
  have FW:=z.low.size;have qQ:Hid (Below v v o):=J z.low;obtain⟨x,D3,d3,D4,d4,D5,d5,D6,d6,D7,d7,D8,d8,X,l4,l5,l6,l7,l8,a4,t4,t5,t6,t7,t8⟩:=z.z a1;have HX:=J (H.z x (kj X));have EC:G<o.heap.size:=by obtain⟨gc,kD,h1,-⟩:=z.K;exact h1.lt
  have T4:=J t4;have T5:=J t5;have T6:=J t6;have T7:=J t7;have T8:=J t8;have bn:decide ((0:Int)<(f.ga.length:Int))=true:=decide_eq_true (by omega);clear a4 t4 t5 t6 t7 t8;rcases hq with rfl|rfl
  .obtain⟨K,a5,bj⟩:=aY (A:Int) 4 (by omega) (by omega);rw[show((4:Nat):Int)=4 from rfl]at a5;obtain⟨M,a6,bl⟩:=aY (A:Int) 8 (by omega) (by omega);rw[show((8:Nat):Int)=8 from rfl]at a6;by_cases Q:0<f.ge.length
   .have bp:decide ((0:Int)<(f.ge.length:Int))=true:=decide_eq_true (by omega);have ap:=a3 Q;obtain⟨L,y,B2,U,hA,hy,u2,u0,u3,Wv,a7,a8,aq,ar⟩:=z.look ap;simp only at hA;subst hA;have HY:=J (H.T.look y (kj hy));have a:=H.look y (kj hy);unfold ki at a;obtain⟨Ap,cp,W2,c0,av,ho,B,p⟩:=jC (W:=o) One.X zu (by decide) u3 (c:=U) a qQ;have a9:(o.alloc (.cells #[] dD)).cell? (L,k*3+2)=some (B2 y.gC.length U):=((aj ((gD o.heap.size o).alloc (ae _) _)).1 _ _ Wv).trans u2;obtain⟨Wa,ba,Y,j⟩:=aO W2 aK #[.int .i64 0];have TM:=p.trans (Y.mono p.size);obtain⟨Wb,WA,Lr,I⟩:=aO Wa aK #[.int .i64 1];have TN:=TM.trans (Lr.mono TM.size);have j:=j.l Lr;obtain⟨Wc,bm,EX,Z⟩:=aO Wb kl #[.slice (W2,0) 1 1,.slice (Wa,0) 1 1];have TP:=TN.trans (EX.mono TN.size);have j:=j.l EX;have I:=I.l EX;obtain⟨Wd,bo,VT,C⟩:=aO Wc xh #[.int .i64 ((K:Int) - 1),.int .i64 ((M:Int) - 1)];have aa:=TP.trans (VT.mono TP.size);have j:=j.l VT;have I:=I.l VT;have Z:=Z.l VT;have n:=ho;have n:=gj n Y;have n:=gj n Lr;have n:=gj n EX;have n:=gj n VT;obtain⟨Aq,cq,d,ab,bW,q,-⟩:=dJ zu 63 Wd o.heap.size _ cp Ap c0 #[(),.slice (Wb,0) 2 2,(),(),.slice (Wc,0) 1 1,.int .i64 0] rfl n (by simp[Value.oneCell']) (by omega) aa.size;have u:Below o o d:=wL aa n q;have D:=z.below u;have sp:Sp o.heap.size dD Wd d:=Sp.push n (ae _) q;have j:=sp.bk j (by decide);have I:=sp.bk I (by decide);have Z:=sp.bk Z (by decide);have C:=sp.bk C (by decide);have Dq:=ar.l u;have E:∀(b:Nat) (t:TypeId) (V:Array Value),Bk d b t V->t∈UN->t≠ja->Tf d b/\b≠L:=λb t V hk ht bb=>⟨⟨V,t,hk,ht⟩,Bk.ne hk Dq bb⟩
    have n1:=Cb (S:=λb=>Tf d b/\b≠L) j [0] rfl (λx X=>by simp at X;subst X;exact⟨by omega,by omega⟩) (E _ _ _ j (by decide) (by decide));have n2:=Cb (S:=λb=>Tf d b/\b≠L) I [1] rfl (λx X=>by simp at X;subst X;exact⟨by omega,by omega⟩) (E _ _ _ I (by decide) (by decide));have n3:=R4 (S:=λb=>Tf d b/\b≠L) (R:=gT) Z [0] [1] ⟨_,1,rfl,n1⟩ ⟨_,1,rfl,n2⟩ (E _ _ _ Z (by decide) (by decide));have n4:=Mc (S:=λb=>Tf d b/\b≠L) (R:=mo) (size:=2) C ⟨(K:Int) - 1,(M:Int) - 1⟩ ⟨rfl,⟨by show _<=(K:Int) - 1;omega,by show(K:Int) - 1<=_;omega⟩,⟨by show _<=(M:Int) - 1;omega,by show(M:Int) - 1<=_;omega⟩⟩ rfl (E _ _ _ C (by decide) (by decide));have aw:lj d (λb=>Tf d b/\b≠L) [.slice none 0 0,.slice (Wb,0) 2 2,.slice none 0 0,.slice none 0 0,.slice (Wc,0) 1 1,.int .i64 0] ⟨[],[[0],[1]],[],[],[⟨(K:Int) - 1,(M:Int) - 1⟩],0⟩:=⟨_,_,_,_,_,_,_,_,_,_,rfl,⟨by show(_:Int)<=0;omega,by show(0:Int)<=_;omega⟩,Sl.nil,n3,Sl.nil,Sl.nil,n4⟩
    have bc:d.frozen? (L,k*3+2)=false:=Dq.frozen _;have zI:d.cell? (L,k*3+2)=some (B2 y.gC.length U):=((aj u).1 _ _ Wv).trans u2;have ay:=TC.more lj.ok D.low Dq a8 bW B (y:=(⟨[],[[0],[1]],[],[],[⟨(K:Int) - 1,(M:Int) - 1⟩],0⟩:k')) aw rfl (by decide) (by decide) (by decide);have jq:=J (D.nl rfl hy (k:=2) (by decide) (Aq (y.gC.length+1) cq) (λV bd=>bd.Bu ay (by simp)));have F:∀r∈y.gC++[(⟨[],[[0],[1]],[],[],[⟨(K:Int) - 1,(M:Int) - 1⟩],0⟩:k')],sy r/\∀s∈r.gE++r.ij++r.ahead,ip s.length:=λr br=>by
     rw[jp,js]at br;rcases br with br|rfl
     .exact HY.X r br
     exact⟨⟨by show 0<=_;omega,by show 2<=_;omega,by show 0<=_;omega,by show 0<=_;omega,by show 1<=_;omega⟩,λs hs=>by simp at hs;rcases hs with rfl|rfl<;>(show 1<=_;omega)⟩
    have jR:=J (H.T.xv k (x:= {y with gC:=y.gC++[(⟨[],[[0],[1]],[],[],[⟨(K:Int) - 1,(M:Int) - 1⟩],0⟩:k')]}) {gC:=ki.snoc (l:=y.gC) a _,X:=F});clear F;have sv:=bG 63 (by kernel_rfl);clear u0 u2 u3 ar Dq a7 l4 l5 l6 l7 l8 ho B n bW q u D sp E aw ay p j Y TM I Lr TN Z EX TP C VT aa;go_wp2_with fail
    go_meet
    exact⟨_,_,jq,jR⟩
   have bp:decide ((0:Int)<(f.ge.length:Int))=false:=decide_eq_false (by omega);have jq:=J z.td;clear l4 l5 l6 l7 l8;go_wp2_with fail
   go_meet
   exact⟨_,_,jq,H.T⟩
  obtain⟨w,ve,vl⟩:=aY (A:Int) 5 (by omega) (by omega);rw[show((5:Nat):Int)=5 from rfl]at ve;have a:=H.e;unfold ki at a;obtain⟨Ap,cp,W2,c0,av,ho,B,p⟩:=jC (W:=o) One.tH Di (by decide) z.e (c:=c6) a qQ;have a9:(o.alloc (.cells #[] sK)).cell? (v,6)=some (A6 f.d'.length c6):=z.box.at ((gD _ _).alloc (ae _) _) 6 rfl;obtain⟨Wa,ba,Y,j⟩:=aO W2 kR #[.int .i64 ((A:Int) - 90),.int .i64 ((w:Int) - 2),.int .i64 64];have ac:=p.trans (Y.mono p.size);have n:=gj ho Y;obtain⟨Aq,cq,d,ab,bW,q,-⟩:=dJ Di 29 Wa o.heap.size _ cp Ap c0 #[.slice (W2,0) 1 1] rfl n (by simp[Value.oneCell']) (by omega) ac.size;have u:Below o o d:=wL ac n q;have D:=z.below u;have j:=(Sp.push n (ae _) q:Sp o.heap.size _ Wa d).bk j (by decide);have bc:d.frozen? (v,6)=_:=D.box.frozen 6;have zI:d.cell? (v,6)=some (A6 f.d'.length c6):=D.box.cell 6;have aD:=D.td.field 6 (Aq (f.d'.length+1) cq) (g':= {f with d':=f.d'++[(⟨[⟨(A:Int) - 90,(w:Int) - 2,64⟩]⟩:Region)]}) (by
   have hs:=sZ ko.ok bW B D.low (Tf.low D.low) (y:=(⟨[⟨(A:Int) - 90,(w:Int) - 2,64⟩]⟩:Region)) ⟨_,1,rfl,Mc (S:=Tf d) (R:=oT) (size:=3) j ⟨(A:Int) - 90,(w:Int) - 2,64⟩ ⟨rfl,⟨by show _<=(A:Int) - 90;omega,by show(A:Int) - 90<=_;omega⟩,⟨by show _<=(w:Int) - 2;omega,by show(w:Int) - 2<=_;omega⟩,⟨by show _<=(64:Int);omega,by show(64:Int)<=_;omega⟩⟩ rfl ⟨_,_,j,by decide⟩⟩ rfl (λb aq hk _=>⟨aq,_,hk,by decide⟩) (by decide);obtain⟨B1,e1,B2,U,B3,e3,B4,e4,B5,e5,B6,e6,B7,e7,B8,e8,e,i0,n1,n2,n3,n4,n5,n6,n7,n8⟩:=D.td.D;rw[e];exact⟨B1,e1,B2,U,B3,e3,B4,e4,B5,e5,Aq,cq,B7,e7,B8,e8,by simp,i0,n1,n2,n3,n4,n5,hs,n7,n8⟩)
  have jq:=J aD;have F:∀r∈f.d'++[(⟨[⟨(A:Int) - 90,(w:Int) - 2,64⟩]⟩:Region)],ip r.kB.length:=λr br=>by
   rw[jp,js]at br;rcases br with br|rfl
   .exact H.T.tH r br
   show 1<=_;omega
  have jR:Hid (mp {f with d':=f.d'++[(⟨[⟨(A:Int) - 90,(w:Int) - 2,64⟩]⟩:Region)]}):=J {H.T with e:=H.e.snoc _,tH:=F};have sv:=bG 29 (by kernel_rfl);clear F Y j ho B bW q aD D p u l4 l5 l6 l7 l8 n ac;go_wp2_with fail
  go_meet
  exact⟨_,_,jq,jR⟩
 case rest=>
 obtain⟨g,V,hT,hB⟩:=hcut;obtain⟨bq,aE,aL,aM⟩:=hT.fin hB;have eX:=J aE;have rO:=J aL;have xC:=J aM;have gV:=J hT.box;obtain⟨B1,e1,B2,U,B3,e3,B4,e4,B5,e5,B6,e6,B7,e7,B8,e8,rfl,-⟩:=hT.D;obtain⟨k0,k1,k2,k3,k4,k5,k6,k7,k8⟩:=nine gV (gD _ _);clear aE aL aM hT hB z H;go_wp2_with fail
 exact bodyPost_ret (iV eX rO) rfl xC
theorem EJ (f:iu)(A1 A2 A3 A4 A5 A6 bf K:Option Addr)(c1 c2 c3 c4 c5 c6 L M:Nat)(E:gN f.gt)(s1:Sl iA 9 v (Tf v) A1 f.ga)(s2:Sl kO 2 v (Tf v) A2 f.f6)(s3:Sl jn 3 v (Tf v) A3 f.ge)(s4:Sl kn 2 v (Tf v) A4 f.a')(s5:Sl kI 4 v (Tf v) A5 f.gM)(s6:Sl ko 1 v (Tf v) A6 f.d')(s7:Sl kx 1 v (Tf v) bf f.fY)(s8:Sl gS 1 v (Tf v) K f.gP)(N:pD f)(h0:0<f.ga.length)(F O q2:Int)(hq:(F.tmod 16+16).tmod 16=15):Calls Tryz.prog 4 #[.agg #[f.gt,A1 f.ga.length c1,A2 f.f6.length c2,A3 f.ge.length c3,A4 f.a'.length c4,A5 f.gM.length c5,A6 f.d'.length c6,bf f.fY.length L,K f.gP.length M],.agg #[F,O,q2]] v (ny v):=by
 obtain⟨Wf,Wq,Wr,Wg,Wl,l,G,cg,cl,Al,aw,xN,oC,p,q,xR,xU,xJ,xH,ay,xI,j2,j1,j0,P,j⟩:=kW v f A1 A2 A3 A4 A5 A6 bf K c1 c2 c3 c4 c5 c6 L M E s1 s2 s3 s4 s5 s6 s7 s8 N h0 F O q2;have b1:=N.ga;have b2:=N.ge;unfold ki at b1 b2;have n:=J N;have vg:=bG 24 (by kernel_rfl);have vl:=bG 26 (by kernel_rfl);obtain⟨r2,Q,a3,a1⟩:=bJ q2 100 (by omega);obtain⟨a,aD,uY⟩:=aY (r2+(100:Nat)) 100 (by omega) (by omega);obtain⟨r1,aE,a4,T⟩:=bJ O f.ga.length h0;obtain⟨i,aL,aM⟩:=aY (r1+f.ga.length) f.ga.length h0 (by omega);have hK:0<f.ge.length->∃(r:Int) (k:Nat),O.tmod (f.ge.length:Int)=r/\ -(f.ge.length:Int)<r/\r<f.ge.length/\(r+f.ge.length).tmod (f.ge.length:Int)=(k:Int)/\k<f.ge.length:=λU=>by
  obtain⟨r,ha,hb,hc⟩:=bJ O f.ge.length U;obtain⟨k,hd,he⟩:=aY (r+f.ge.length) f.ge.length U (by omega);exact⟨r,k,ha,hb,hc,hd,he⟩
 have HK:=J hK;have bn:decide ((0:Int)<(f.ga.length:Int))=true:=decide_eq_true (by omega);have lh:((100:Nat):Int)=100:=rfl;rw[lh]at Q aD;clear N hK lh E s1 s2 s3 s4 s5 s6 s7 s8;obtain⟨mm,s⟩:∃m:Int,(F.tmod 16+16).tmod 16=m:=⟨_,rfl⟩
 rw[s]at hq;obtain⟨r0,aN⟩:∃r:Int,F.tmod 16=r/\ -16<r/\r<16:=bJ F 16 (by omega);obtain⟨V,T,DD⟩:=aN;rw[V]at s;go_enter Tryz.func4,Tryz.ntmps4
 go_upto_if 39 with fail
 try clear aw
 try clear xN
 try clear oC
 clear xR xU p q j2 Q aL aE bn;go_cut [9]from 40 to 50 (λw wx=>∃k:Nat,w=.int .i64 k/\(0<f.ge.length->k<f.ge.length)/\Wl=wx)
 case first=>
  by_cases U:0<f.ge.length
  .obtain⟨r,k,X,Y,Z,e4,H⟩:=HK U;have bp:decide ((0:Int)<(f.ge.length:Int))=true:=decide_eq_true (by omega);go_wp2_with fail
   go_meet
   exact⟨k,rfl,λ_=>H,rfl⟩
  have bp:decide ((0:Int)<(f.ge.length:Int))=false:=decide_eq_false (by omega);go_wp2_with fail
  go_meet
  exact⟨0,rfl,λh=>absurd h U,rfl⟩
 case rest=>
 obtain⟨k,rfl,a5,rfl⟩:=hcut;clear HK j1
 go_upto_block 0 with fail
 try rw[P]
 clear vg vl P xJ ay xH xI j0 V s;go_cut []from 60 to 374 (λwx=>∃(g:iu) (cs:List Value),TD v wx Wq.heap.size cs g/\mp g)
 case first=>
  have FW:=j.low.size;have qQ:Hid (Below v v l):=J j.low;obtain⟨x,D3,d3,D4,d4,D5,d5,D6,d6,D7,d7,D8,d8,hx,l4,l5,l6,l7,l8,aQ,t4,t5,t6,t7,t8⟩:=j.z aM;have HX:=J (n.z x (kj hx));have EC:G<l.heap.size:=by obtain⟨gc,kD,h1,-⟩:=j.K;exact h1.lt
  have T4:=J t4;have T5:=J t5;have T6:=J t6;have T7:=J t7;have T8:=J t8;have bn:decide ((0:Int)<(f.ga.length:Int))=true:=decide_eq_true (by omega);clear aQ t4 t5 t6 t7 t8;subst hq;obtain⟨w,ve,vl⟩:=aY (a:Int) 42 (by omega) (by omega);rw[show((42:Nat):Int)=42 from rfl]at ve;have o:=n.fY;unfold ki at o;obtain⟨Ap,cp,W2,c0,a2,ho,aa,t⟩:=jC (W:=l) One.code LM (by decide) j.fY (c:=L) o qQ;have a6:(l.alloc (.cells #[] Ik)).cell? (v,7)=some (bf f.fY.length L):=j.box.at ((gD _ _).alloc (ae _) _) 7 rfl;obtain⟨Wa,a7,zh,kN⟩:=aO W2 qj #[.int .i64 (w:Int),.int .i64 (a:Int)];have u:=t.trans (zh.mono t.size);have je:=gj ho zh;obtain⟨Aq,cq,I,aR,bW,z,-⟩:=dJ LM 30 Wa l.heap.size _ cp Ap c0 #[.slice (W2,0) 1 1] rfl je (by simp[Value.oneCell']) (by omega) u.size;have ab:Below l l I:=wL u je z;have A:=j.below ab;have kN:=(Sp.push je (ae _) z:Sp l.heap.size _ Wa I).bk kN (by decide);have a8:I.frozen? (v,7)=_:=A.box.frozen 7;have zI:I.cell? (v,7)=some (bf f.fY.length L):=A.box.cell 7;have d:=A.td.field 7 (Aq (f.fY.length+1) cq) (g':= {f with fY:=f.fY++[[(⟨(w:Int),(a:Int)⟩:Ins)]]}) (by
   have hs:=sZ kx.ok bW aa A.low (Tf.low A.low) (y:=[(⟨(w:Int),(a:Int)⟩:Ins)]) ⟨_,1,rfl,Mc (S:=Tf I) (R:=ky) (size:=2) kN ⟨(w:Int),(a:Int)⟩ ⟨rfl,⟨by show _<=(w:Int);omega,by show(w:Int)<=_;omega⟩,⟨by show _<=(a:Int);omega,by show(a:Int)<=_;omega⟩⟩ rfl ⟨_,_,kN,by decide⟩⟩ rfl (λb B hk _=>⟨B,_,hk,by decide⟩) (by decide);obtain⟨B1,X,B2,Y,B3,Z,B4,e4,B5,H,B6,e6,B7,e7,B8,e8,e,E,n1,n2,n3,n4,n5,n6,n7,n8⟩:=A.td.D;rw[e];exact⟨B1,X,B2,Y,B3,Z,B4,e4,B5,H,B6,e6,Aq,cq,B8,e8,by simp,E,n1,n2,n3,n4,n5,n6,hs,n8⟩)
  obtain⟨W5,oz⟩:∃x,I.setCell (v,7) (Aq (f.fY.length+1) cq)=x:=⟨_,rfl⟩
  rw[oz]at d;have ac:=n.gP;unfold ki at ac;obtain⟨Ar,cr,W6,c9,aW,WH,ad,C⟩:=jC (W:=W5) One.int iw (by decide) j.gP (c:=M) ac d.low;obtain⟨At,ct,W8,a0,ak,ED,-⟩:=dJ iw 22 W6 W5.heap.size _ cr Ar c9 #[.int .i64 (((a:Int) - 50)*400)] rfl WH (by simp[Value.oneCell']) (by omega) C.size;have al:Below W5 W5 W8:=wL C WH ED;have D:=d.below al;have a9:(W5.alloc (.cells #[] aK)).cell? (v,8)=some (K f.gP.length M):=Bk.at d.box ((gD _ _).alloc (ae _) _) 8 rfl;have ba:W8.frozen? (v,8)=_:=D.box.frozen 8;have bb:W8.cell? (v,8)=some (K f.gP.length M):=D.box.cell 8;have ao:=D.field 8 (At (f.gP.length+1) ct) (g':= {f with fY:=f.fY++[[(⟨(w:Int),(a:Int)⟩:Ins)]],gP:=f.gP++[((a:Int) - 50)*400]}) (by
   have hs:=sZ gS.ok ak ad D.low (Tf.low D.low) (y:=((a:Int) - 50)*400) ⟨rfl,⟨by show _<=((a:Int) - 50)*400;omega,by show((a:Int) - 50)*400<=_;omega⟩⟩ rfl (λb B hk _=>⟨B,_,hk,by decide⟩) (by decide);obtain⟨B1,X,B2,Y,B3,Z,B4,e4,B5,H,B6,e6,B7,e7,B8,e8,e,E,n1,n2,n3,n4,n5,n6,n7,n8⟩:=D.D;rw[e];exact⟨B1,X,B2,Y,B3,Z,B4,e4,B5,H,B6,e6,B7,e7,At,ct,by simp,E,n1,n2,n3,n4,n5,n6,n7,hs⟩)
  have jq:=J ao;have ap:∀r∈f.fY++[[(⟨(w:Int),(a:Int)⟩:Ins)]],ip r.length:=λr hr=>by
   rw[jp,js]at hr;rcases hr with hr|rfl
   .exact n.T.func r hr
   show 1<=_;omega
  have jR:Hid (mp {f with fY:=f.fY++[[(⟨(w:Int),(a:Int)⟩:Ins)]],gP:=f.gP++[((a:Int) - 50)*400]}):=J {n.T with fY:=n.fY.snoc _,gP:=n.gP.snoc _,func:=ap};have sv:=bG 30 (by kernel_rfl);have bc:=bG 22 (by kernel_rfl);clear ap zh kN ho aa bW z d A t ab l4 l5 l6 l7 l8 je u WH ad ak ED al D ao C;go_wp2_with fail
  try clear oz
  go_meet
  exact⟨_,_,jq,jR⟩
 case rest=>
 obtain⟨g,cs,hT,hB⟩:=hcut;obtain⟨bd,aq,ar,av⟩:=hT.fin hB;have eX:=J aq;have rO:=J ar;have xC:=J av;have gV:=J hT.box;obtain⟨B1,X,B2,Y,B3,Z,B4,e4,B5,H,B6,e6,B7,e7,B8,e8,rfl,-⟩:=hT.D;obtain⟨k0,k1,k2,k3,k4,k5,k6,k7,k8⟩:=nine gV (gD _ _);clear aq ar av hT hB j n;go_wp2_with fail
 exact bodyPost_ret (iV eX rO) rfl xC
theorem eval_at {a:Act}{k:Nat}{v:Value}(h:a.tmps[k]?=some v):a.eval (.tmp k)=v:=by simp[Act.eval,h]
theorem Ba (a:List Value)(v:Value):∀(t:Array Value) (b k:Nat),k=b+a.length->(nl t b a).setIfInBounds k v=nl t b (a++[v]):=by
 have d:∀(c:Nat->Nat) (a:List Value) (t:Array Value) (i:Nat),(qf t c i a).setIfInBounds (c (i+a.length)) v=qf t c i (a++[v]):=by
  intro c a;induction a with
  |nil=>intro t i;rfl
  |cons u a e=>intro t i;rw[aV,show i+(a.length+1)=i+1+a.length by omega];exact e _ _
 intro t b k h;subst h;have:=d (λi=>b+i) a t 0
 rwa [mU]at this
theorem uh {v:Value}{c:Nat}(k d:Nat)(j:c+i.length<=t.size)(f:k=c+d)(g:i[d]?=some v):(nl t c i)[k]?=some v:=by
 subst f;have:=Ii (sl:=λd=>c+d) i t 0 (λa b _ h _ e=>by omega) (λa _ h=>by show c+a<_;omega) d v g
 rwa [mU]at this
theorem Uh {c:List Value}(k:Nat)(d:b+c.length<=t.size)(f:k<b\/b+c.length<=k):(nl t b c)[k]?=t[k]? :=JR c t 0 (λa _ h e=>by omega)
theorem Tk (h:i.length=14):∃f g e j k l m n o p a b c d,i=[f,g,e,j,k,l,m,n,o,p,a,b,c,d]:=
 match i,h with
 |[f,g,e,j,k,l,m,n,o,p,a,b,c,d],_=>⟨f,g,e,j,k,l,m,n,o,p,a,b,c,d,rfl⟩
theorem Tl {k:List Value}(h:k.length=19):∃l m n o p q r s t u a b c d e f g i j,k=[l,m,n,o,p,q,r,s,t,u,a,b,c,d,e,f,g,i,j]:=
 match k,h with
 |[l,m,n,o,p,q,r,s,t,u,a,b,c,d,e,f,g,i,j],_=>⟨l,m,n,o,p,q,r,s,t,u,a,b,c,d,e,f,g,i,j,rfl⟩
theorem Tz {X:Nat}(E:mh e b X)(Z:TypeId){Y g B n c:Nat}(F:Y<=g)(G:Bk h g e #[])(Q:Y<=h)(p:Rd h B m n X i)(R:∀u∈i,u.oneCell'=true)(S:n<=100000):
  ∃k l w',(Builtin.append_ #[b,b] Z #[.slice (g,0) 0 0,m n c]).run Tryz.prog h=.ok (.slice k n l) w'/\w'.ownsRow Y e X (.slice k n l) n i/\Below h h w':=by
 have a:h.ownsRow Y e X (.slice (g,0) 0 0) 0 []:=⟨by simp,.inr ⟨g,0,#[],rfl,F,G,ae _,by unfold maxLen;omega,by simp,by simp⟩⟩
 obtain⟨t,z,q,hi,H,I,r,s,v⟩:=E;rcases Nat.eq_zero_or_pos n with h0|h0
 .subst h0;have V:i=[]:=List.eq_nil_of_length_eq_zero (by simpa using p.1);subst V;cases m with
  |none=>exact⟨some ⟨g,0,none⟩,0,h,yE h Y b Z e t X q hi _ 0 [] a c,a,gD _ _⟩
  |some K=>have:=run_append_room_cells (P:=Tryz.prog) h b Z e t q hi g 0 0 0 K 0 c [] (by simp) (by simp) (by simp) (by omega) (by simp) (by simp);exact⟨some ⟨g,0,none⟩,0,h,this,a,gD _ _⟩
 obtain⟨w,o,rfl,-,x⟩:=p.2 h0;have d:(0+n)*t.bytes<=140737488355328:=nt (Nat.mul_le_mul (show 0+n<=100000000000 by omega) s) (by decide);obtain⟨T,w',f,A,y⟩:=run_append_arg_grows (P:=Tryz.prog) h b Z e t z X t.bytes q hi H I rfl r v (g,0) 0 0 [] (by simp) (by simp) (w,o) n c i p.1 (λj u L=>by rw[jt];exact x j u L) (by omega) (by unfold maxLen;omega) d;simp only[mU,pG]at A;obtain⟨k,l,rfl⟩:=mP A;refine⟨k,l,w',f,⟨A.1,?_⟩,(gD _ _).grown y (ae _) (λ_ e=>by cases e)⟩;rcases A.2 with W|⟨M,C,D,N,U,O⟩
 .exact .inl W
 exact .inr ⟨M,C,D,N,by omega,O⟩
def sX (h:World)(d:Nat)(i:Option Addr)(c5 n:Nat)(e:List Value)(a b:Nat)(f:B):Nat->Value->World->Prop
 |0,v,w=>∃g,v=.slice (some ⟨g,0,none⟩) 0 0/\h.heap.size<=g/\Bk w g qh #[]
 |1,v,_=>v=.pointer (d,5)
 |2,v,_=>v= i n c5
 |3,v,w=>∃A c,v=.slice A n c/\w.ownsRow h.heap.size qh 4 (.slice A n c) n e
 |4,v,w=>∃g,v=.slice (some ⟨g,0,none⟩) 3 3/\Bk w g 9 #[.string ⟨#[97,120,97]⟩,.string ⟨#[113]⟩,.string ⟨#[]⟩]
 |6,v,_=>v=.int .i64 (b:Int)
 |7,v,w=>∃g,v=.pointer (some ⟨g,b,none⟩)/\Bk w g 9 #[.string ⟨#[97,120,97]⟩,.string ⟨#[113]⟩,.string ⟨#[]⟩]
 |8,v,_=>v=.string f
 |10,v,_=>v=.agg #[.string f,.int .i64 (a:Int),.int .i64 50,.int .i64 60]
 |11,v,w=>∃g,v=.slice (some ⟨g,0,none⟩) 1 1/\Bk w g qh #[.string f,.int .i64 (a:Int),.int .i64 50,.int .i64 60]
 |_,v,_=>v=.int .i64 (a:Int)
theorem sX.below {c5 n:Nat}{k:Nat}{p:B}(o:Nat)(v:Value)(w w':World)(d:Below w w w')(f:sX h e m c5 n i b k p o v w):sX h e m c5 n i b k p o v w':=by
 unfold sX at f ⊢;split at f
 .obtain⟨g,a,j,l⟩:=f;exact⟨g,a,j,l.l d⟩
 .exact f
 .exact f
 .obtain⟨A,c,a,j⟩:=f;exact⟨A,c,a,gj j d⟩
 .obtain⟨g,a,j⟩:=f;exact⟨g,a,j.l d⟩
 .exact f
 .obtain⟨g,a,j⟩:=f;exact⟨g,a,j.l d⟩
 .exact f
 .exact f
 .obtain⟨g,a,j⟩:=f;exact⟨g,a,j.l d⟩
 exact f
theorem Hc {w W1:World}{rb:Nat}{f:iu}{p:Fp}{G:Nat}(N:Hid (TC w W1 rb f p G))(U:Hid (pD f))(r D:Nat)(uY:r<100)(UO:(r:Int).tmod 3=(D:Int))(GM:D<3)(nm:B)(X:([.string ⟨#[97,120,97]⟩,.string ⟨#[113]⟩,.string ⟨#[]⟩]:List Value)[D]'(by simpa using GM)=.string nm)(Y:nm.length<=17)
  (ay:Array Oper) (dr:Bool) (hc:Tryz.f4.body.bind (oN 52)=some (ay,dr)) (Q:Exit->Act->World->Prop) (a0:Act) (hz:a0.tmps.size=376) (s:a0.tmps[2]?=some (.pointer (w,0))) (h5:a0.tmps[5]?=some (.int .i64 (r:Int)))
  (hQ:∀(k:List Value) (w':World) (g:iu) (cs:List Value),k.length=14->TD w w' rb cs g->mp g->Q .normal {tmps:=nl a0.tmps 344 k,defers:=a0.defers} w'):Code.wp Tryz.prog (.region 52 ay dr) Q a0 W1:=by
 simp only[Tryz.f4,Option.bind_some,oN,reduceIte,Nat.reduceEqDiff,reduceCtorEq,n',rE]at hc;obtain⟨rfl,rfl⟩:=hc;have FW:=N.low.size;have E:=U.gM;unfold ki at E;obtain⟨x0,F0,R0,O0⟩:=N.gM.yd One.qS (by decide) Tf.lt;have R1:=R0.below N.low (ae _);have aq:(0:Int)<=(D:Int):=by omega
 have ar:(D:Int)<3:=by omega
 refine GX 12 344 (sX W1 w.heap.size p.A5 p.c5 f.gM.length x0 r D nm) (by kernel_rfl) (by kernel_rfl) (by decide) (by kernel_rfl) (by kernel_rfl) (by omega) sX.below ?_ ?_
 .intro i o hi l a V m d q;have t2:=(m 2 (.inl (by omega))).trans s;have t5:=(m 5 (.inl (by omega))).trans h5;have t:=d.size;have H:i=0\/i=1\/i=2\/i=3\/i=4\/i=5\/i=6\/i=7\/i=8\/i=9\/i=10\/i=11:=by omega
  clear m s h5 hQ Y;rcases H with rfl|rfl|rfl|rfl|rfl|rfl|rfl|rfl|rfl|rfl|rfl|rfl
  .cases l
   go_simp
   exact⟨_,rfl,(gD _ _).alloc (ae _) _,_,rfl,t,Bk.new _ _ _⟩
  .cases l
   go_simp
   exact⟨_,rfl,gD _ _,rfl⟩
  .cases l;obtain⟨_,n,rfl⟩:=q 1 (by kernel_rfl);have hS:=N.box.at d 5 (W:= .slice p.A5 f.gM.length p.c5) rfl
   go_simp
   exact⟨_,rfl,gD _ _,rfl⟩
  .cases l;obtain⟨_,h0,g,rfl,hg,x⟩:=q 0 (by kernel_rfl);obtain⟨_,s,rfl⟩:=q 2 (by kernel_rfl);have e0:=eval_at h0;have aw:=eval_at s;obtain⟨A',c',w',P,l,hb⟩:=Tz (c:=p.c5) LJ 28 hg x t (R1.below d FW) O0 E;unfold Oper.wp execOp;simp only[resolve,invoke,builtin,Sem.run_bind,Sem.run_pure,Result.andThen_ok,List.map_toArray,lP,p9,e0,aw,P];exact⟨_,rfl,hb,_,_,rfl,l⟩
  .cases l
   go_simp
   exact⟨_,rfl,(gD _ _).alloc (ae _) _,_,rfl,Bk.new _ _ _⟩
  .cases l
   go_simp
   exact⟨_,rfl,gD _ _,rfl⟩
  .cases l;obtain⟨_,n,rfl⟩:=q 5 (by kernel_rfl)
   go_simp
   exact⟨_,rfl,gD _ _,rfl⟩
  .cases l;obtain⟨_,n,g,rfl,x⟩:=q 4 (by kernel_rfl);obtain⟨_,s,rfl⟩:=q 6 (by kernel_rfl)
   go_simp
   exact⟨_,rfl,gD _ _,_,rfl,x⟩
  .cases l;obtain⟨_,n,g,rfl,x⟩:=q 7 (by kernel_rfl);have hS:V.cell? (g,D)=some (.string nm):=(x.cell D).trans (by rw[<-X];simp[GM])
   go_simp
   exact⟨_,rfl,gD _ _,rfl⟩
  .cases l
   go_simp
   exact⟨_,rfl,gD _ _,rfl⟩
  .cases l;obtain⟨_,n,rfl⟩:=q 8 (by kernel_rfl);obtain⟨_,s,rfl⟩:=q 9 (by kernel_rfl)
   go_simp
   exact⟨_,rfl,gD _ _,rfl⟩
  cases l;obtain⟨_,n,rfl⟩:=q 10 (by kernel_rfl)
  go_simp
  exact⟨_,rfl,(gD _ _).alloc (ae _) _,_,rfl,Bk.new _ _ _⟩
 intro k V R d hf;have t:=d.size;have S:344+k.length<=a0.tmps.size:=by omega
 have Z:k[3]?=some k[3]:=jO (by omega);have L:k[11]?=some k[11]:=jO (by omega);obtain⟨A,c,aa,F⟩:=hf 3 _ Z;obtain⟨g,ab,x⟩:=hf 11 _ L;rw[aa]at Z;rw[ab]at L;have hr:Rd V (g+1) (g,0) 1 4 [.string nm,.int .i64 (r:Int),.int .i64 50,.int .i64 60]:=⟨rfl,λ_=>⟨g,0,rfl,by omega,λj u hu=>by rw[mU];exact(x.cell j).trans (by simpa using hu)⟩⟩
 refine Dc LJ rfl (.tmp 347) (.tmp 355) rfl V W1.heap.size f.gM.length c A x0 (g+1) (g,0) 1 1 _ (eval_at (uh 347 3 S rfl Z)) (eval_at (uh 355 11 S rfl L)) F hr (by simp[Value.oneCell']) (by omega) t ?_;intro z C W4 bW ac _;have ad:Below W1 W1 W4:=wL d F ac;have M:=N.below ad;have av:W4.frozen? (w,5)=_:=M.box.frozen 5;have zI:W4.cell? (w,5)=some (.slice p.A5 f.gM.length p.c5):=M.box.cell 5;have ak:=M.td.field 5 (z (f.gM.length+1) C) (g':= {f with gM:=f.gM++[(⟨nm,(r:Int),50,60⟩:mT)]}) (by
  have hs:=sZ kI.ok bW F0 M.low (Tf.low M.low) (y:=(⟨nm,(r:Int),50,60⟩:mT)) ⟨rfl,by simp[gN];omega,by simp[gN],by simp[gN]⟩ rfl (λb al x _=>⟨al,_,x,by decide⟩) (by decide);obtain⟨B1,I,B2,O,B3,aw,B4,e4,B5,e5,B6,e6,B7,e7,B8,e8,e,i0,n1,n2,n3,n4,n5,n6,n7,n8⟩:=M.td.D;rw[e];exact⟨B1,I,B2,O,B3,aw,B4,e4,z,C,B6,e6,B7,e7,B8,e8,by simp,i0,n1,n2,n3,n4,hs,n6,n7,n8⟩)
 have ao:∀a∈f.gM++[(⟨nm,(r:Int),50,60⟩:mT)],ip a.gn.length:=λa ha=>by
  rcases jp.1 ha with h|h
  .exact U.T.qS a h
  simp at h;subst h;show ip nm.length;unfold ip;omega
 have ap:mp {f with gM:=f.gM++[(⟨nm,(r:Int),50,60⟩:mT)]} := {U.T with gM:=U.gM.snoc _,qS:=ao}
 have sv:=bG 28 (by kernel_rfl);have ea:(Act.put {tmps:=nl a0.tmps 344 k,defers:=a0.defers} (some 356) (z (f.gM.length+1) C))={tmps:=nl a0.tmps 344 (k++[z (f.gM.length+1) C]),defers:=a0.defers} :=by simp only[Act.put];rw[Ba _ _ _ _ _ (by rw[R])]
 show wpList _ _ _ _ (Act.put _ (some 356) _) _;rw[ea];refine wpList_plain rfl λK W=> ?_
 have O:=eval_at (a:= {tmps:=nl a0.tmps 344 (k++[z (f.gM.length+1) C]),defers:=a0.defers}) ((Uh 2 (by simp;omega) (.inl (by omega))).trans s);unfold Oper.wp execOp;simp only[O]
 go_simp
 refine W _ _ ?_;rw[Ba _ _ _ _ _ (by simp[R])];clear W O;refine wpList_plain rfl λK W=> ?_
 have T:344+(k++[Value.slice z (f.gM.length+1) C]++[Value.pointer (w,5)]).length<=a0.tmps.size:=by simp;omega
 have aw:=eval_at (a:= {tmps:=nl a0.tmps 344 (k++[z (f.gM.length+1) C]++[.pointer (w,5)]),defers:=a0.defers}) (uh (v:= .pointer (w,5)) 357 13 T rfl (by simp[R]));have e4:=eval_at (a:= {tmps:=nl a0.tmps 344 (k++[z (f.gM.length+1) C]++[.pointer (w,5)]),defers:=a0.defers}) (uh (v:= z (f.gM.length+1) C) 356 12 T rfl (by simp[R]));unfold Oper.wp execOp;simp only[aw,e4]
 go_simp
 refine W _ _ ?_;exact hQ _ _ _ _ (by simp[R]) ak ap
def sY (j:World)(e:Nat)(k:Option Addr)(c4 n:Nat)(f:List Value)(h d a b:Nat)(i:B):Nat->Value->World->Prop
 |0,v,w=>∃g,v=.slice (some ⟨g,0,none⟩) 0 0/\j.heap.size<=g/\Bk w g DX #[]
 |1,v,_=>v=.pointer (e,4)
 |2,v,_=>v= k n c4
 |3,v,w=>∃A c,v=.slice A n c/\w.ownsRow j.heap.size DX 2 (.slice A n c) n f
 |4,v,w=>∃g,v=.slice (some ⟨g,0,none⟩) 5 5/\Bk w g 9 #[.string ⟨#[108,105,103,97]⟩,.string ⟨#[120]⟩,.string ⟨#[116,111,111,108,111,110,103,110,97,109,101]⟩,.string ⟨#[97,49]⟩,.string ⟨#[]⟩]
 |6,v,_=>v=.int .i64 (d:Int)
 |7,v,w=>∃g,v=.pointer (some ⟨g,d,none⟩)/\Bk w g 9 #[.string ⟨#[108,105,103,97]⟩,.string ⟨#[120]⟩,.string ⟨#[116,111,111,108,111,110,103,110,97,109,101]⟩,.string ⟨#[97,49]⟩,.string ⟨#[]⟩]
 |8,v,_=>v=.string i
 |10,v,_=>v=.int .i64 (a:Int)
 |11,v,_=>v=.int .i64 ((a:Int) - 1)
 |13,v,_=>v=.int .i64 (b:Int)
 |14,v,w=>∃g,v=.slice (some ⟨g,0,none⟩) 2 2/\Bk w g aK #[.int .i64 ((a:Int) - 1),.int .i64 (b:Int)]
 |15,v,w=>∃g,v=.agg #[.string i,.slice (some ⟨g,0,none⟩) 2 2]/\Bk w g aK #[.int .i64 ((a:Int) - 1),.int .i64 (b:Int)]
 |16,v,w=>∃x g,v=.slice (some ⟨x,0,none⟩) 1 1/\Bk w x DX #[.string i,.slice (some ⟨g,0,none⟩) 2 2]/\Bk w g aK #[.int .i64 ((a:Int) - 1),.int .i64 (b:Int)]
 |_,v,_=>v=.int .i64 (h:Int)
theorem sY.below {p:Option Addr}{c4 n:Nat}{k m o:Nat}{r:B}(f:Nat)(v:Value)(w w':World)(d:Below w w w')(l:sY h e p c4 n i k b m o r f v w):sY h e p c4 n i k b m o r f v w':=by
 unfold sY at l ⊢;split at l
 .obtain⟨g,a,q,j⟩:=l;exact⟨g,a,q,j.l d⟩
 .exact l
 .exact l
 .obtain⟨A,c,a,q⟩:=l;exact⟨A,c,a,gj q d⟩
 .obtain⟨g,a,q⟩:=l;exact⟨g,a,q.l d⟩
 .exact l
 .obtain⟨g,a,q⟩:=l;exact⟨g,a,q.l d⟩
 .exact l
 .exact l
 .exact l
 .exact l
 .obtain⟨g,a,q⟩:=l;exact⟨g,a,q.l d⟩
 .obtain⟨g,a,q⟩:=l;exact⟨g,a,q.l d⟩
 .obtain⟨x,g,a,q,j⟩:=l;exact⟨x,g,a,q.l d,j.l d⟩
 exact l
theorem DO {w W1:World}{rb:Nat}{f:iu}{p:Fp}{G:Nat}(O:Hid (TC w W1 rb f p G))(HS:Hid (pD f))(P n D:Nat)(uY:P<100)(UO:(P:Int).tmod 5=(n:Int))(GM:n<5)(aw:(P:Int).tmod 4=(D:Int))(ay:D<4)(nm:B)(ab:([.string ⟨#[108,105,103,97]⟩,.string ⟨#[120]⟩,.string ⟨#[116,111,111,108,111,110,103,110,97,109,101]⟩,.string ⟨#[97,49]⟩,.string ⟨#[]⟩]:List Value)[n]'(by simpa using GM)=.string nm)(ac:nm.length<=17)
  (aQ:Array Oper) (dr:Bool) (hc:Tryz.f4.body.bind (oN 50)=some (aQ,dr)) (Q:Exit->Act->World->Prop) (a0:Act) (hz:a0.tmps.size=376) (s:a0.tmps[2]?=some (.pointer (w,0))) (h5:a0.tmps[5]?=some (.int .i64 (P:Int)))
  (hQ:∀(q:List Value) (w':World) (g:iu) (cs:List Value),q.length=19->TD w w' rb cs g->mp g->Q .normal {tmps:=nl a0.tmps 323 q,defers:=a0.defers} w'):Code.wp Tryz.prog (.region 50 aQ dr) Q a0 W1:=by
 simp only[Tryz.f4,Option.bind_some,oN,reduceIte,Nat.reduceEqDiff,reduceCtorEq,n',rE]at hc;obtain⟨rfl,rfl⟩:=hc;have FW:=O.low.size;have I:=HS.k;unfold ki at I;obtain⟨x0,F0,R0,O0⟩:=O.k.yd One.tn (by decide) Tf.lt;have R1:=R0.below O.low (ae _);have aD:(0:Int)<=(n:Int):=by omega
 have aE:(n:Int)<5:=by omega
 have aL:IntKind.i64.wrap ((D:Int) - 1)=(D:Int) - 1:=jj _ (by omega) (by omega);refine GX 17 323 (sY W1 w.heap.size p.A4 p.c4 f.a'.length x0 P n D n nm) (by kernel_rfl) (by kernel_rfl) (by decide) (by kernel_rfl) (by kernel_rfl) (by omega) sY.below ?_ ?_
 .intro i o hi k a R t d m;have t2:=(t 2 (.inl (by omega))).trans s;have t5:=(t 5 (.inl (by omega))).trans h5;have E:=d.size;have L:i=0\/i=1\/i=2\/i=3\/i=4\/i=5\/i=6\/i=7\/i=8\/i=9\/i=10\/i=11\/i=12\/i=13\/i=14\/i=15\/i=16:=by omega
  clear t s h5 hQ ac;rcases L with rfl|rfl|rfl|rfl|rfl|rfl|rfl|rfl|rfl|rfl|rfl|rfl|rfl|rfl|rfl|rfl|rfl
  .cases k
   go_simp
   exact⟨_,rfl,(gD _ _).alloc (ae _) _,_,rfl,E,Bk.new _ _ _⟩
  .cases k
   go_simp
   exact⟨_,rfl,gD _ _,rfl⟩
  .cases k;obtain⟨_,l,rfl⟩:=m 1 (by kernel_rfl);have hS:=O.box.at d 4 (W:= .slice p.A4 f.a'.length p.c4) rfl
   go_simp
   exact⟨_,rfl,gD _ _,rfl⟩
  .cases k;obtain⟨_,h0,g,rfl,hg,r⟩:=m 0 (by kernel_rfl);obtain⟨_,s,rfl⟩:=m 2 (by kernel_rfl);have e0:=eval_at h0;have aN:=eval_at s;obtain⟨A',c',w',U,k,hb⟩:=Tz (c:=p.c4) LP 27 hg r E (R1.below d FW) O0 I;unfold Oper.wp execOp;simp only[resolve,invoke,builtin,Sem.run_bind,Sem.run_pure,Result.andThen_ok,List.map_toArray,lP,p9,e0,aN,U];exact⟨_,rfl,hb,_,_,rfl,k⟩
  .cases k
   go_simp
   exact⟨_,rfl,(gD _ _).alloc (ae _) _,_,rfl,Bk.new _ _ _⟩
  .cases k
   go_simp
   exact⟨_,rfl,gD _ _,rfl⟩
  .cases k;obtain⟨_,l,rfl⟩:=m 5 (by kernel_rfl)
   go_simp
   exact⟨_,rfl,gD _ _,rfl⟩
  .cases k;obtain⟨_,l,g,rfl,r⟩:=m 4 (by kernel_rfl);obtain⟨_,s,rfl⟩:=m 6 (by kernel_rfl)
   go_simp
   exact⟨_,rfl,gD _ _,_,rfl,r⟩
  .cases k;obtain⟨_,l,g,rfl,r⟩:=m 7 (by kernel_rfl);have hS:R.cell? (g,n)=some (.string nm):=(r.cell n).trans (by rw[<-ab];simp[GM])
   go_simp
   exact⟨_,rfl,gD _ _,rfl⟩
  .cases k
   go_simp
   exact⟨_,rfl,gD _ _,rfl⟩
  .cases k;obtain⟨_,l,rfl⟩:=m 9 (by kernel_rfl)
   go_simp
   exact⟨_,rfl,gD _ _,rfl⟩
  .cases k;obtain⟨_,l,rfl⟩:=m 10 (by kernel_rfl)
   go_simp
   exact⟨_,rfl,gD _ _,rfl⟩
  .cases k
   go_simp
   exact⟨_,rfl,gD _ _,rfl⟩
  .cases k;obtain⟨_,l,rfl⟩:=m 12 (by kernel_rfl)
   go_simp
   exact⟨_,rfl,gD _ _,rfl⟩
  .cases k;obtain⟨_,l,rfl⟩:=m 11 (by kernel_rfl);obtain⟨_,s,rfl⟩:=m 13 (by kernel_rfl)
   go_simp
   exact⟨_,rfl,(gD _ _).alloc (ae _) _,_,rfl,Bk.new _ _ _⟩
  .cases k;obtain⟨_,l,rfl⟩:=m 8 (by kernel_rfl);obtain⟨_,s,g,rfl,r⟩:=m 14 (by kernel_rfl)
   go_simp
   exact⟨_,rfl,gD _ _,g,rfl,r⟩
  cases k;obtain⟨_,l,g,rfl,r⟩:=m 15 (by kernel_rfl)
  go_simp
  exact⟨_,rfl,(gD _ _).alloc (ae _) _,_,g,rfl,Bk.new _ _ _,r.alloc _⟩
 intro q R V d hf;have E:=d.size;have W:323+q.length<=a0.tmps.size:=by omega
 have q3:q[3]?=some q[3]:=jO (by omega);have M:q[16]?=some q[16]:=jO (by omega);obtain⟨A,c,ad,C⟩:=hf 3 _ q3;obtain⟨x,g,ak,r,al⟩:=hf 16 _ M;rw[ad]at q3;rw[ak]at M;have hr:Rd R (x+1) (some ⟨x,0,none⟩) 1 2 [.string nm,.slice (g,0) 2 2]:=⟨rfl,λ_=>⟨x,0,rfl,by omega,λj u hu=>by rw[mU];exact(r.cell j).trans (by simpa using hu)⟩⟩
 refine Dc LP rfl (.tmp 326) (.tmp 339) rfl R W1.heap.size f.a'.length c A x0 (x+1) (some ⟨x,0,none⟩) 1 1 _ (eval_at (uh 326 3 W rfl q3)) (eval_at (uh 339 16 W rfl M)) C hr (by simp[Value.oneCell']) (by omega) E ?_;intro F H X bW Y _;have ao:Below W1 W1 X:=wL d C Y;have N:=O.below ao;have Z:=(Sp.push C (ae _) Y:Sp W1.heap.size _ R X).bk al (by decide);have aM:X.frozen? (w,4)=_:=N.box.frozen 4;have zI:X.cell? (w,4)=some (.slice p.A4 f.a'.length p.c4):=N.box.cell 4;have ap:=N.td.field 4 (F (f.a'.length+1) H) (g':= {f with a':=f.a'++[(⟨nm,[(D:Int) - 1,(n:Int)]⟩:mS)]}) (by
  have hs:=sZ kn.ok bW F0 N.low (Tf.low N.low) (y:=(⟨nm,[(D:Int) - 1,(n:Int)]⟩:mS)) ⟨_,2,rfl,Cb (S:=Tf X) Z [(D:Int) - 1,(n:Int)] rfl (λx hx=>by simp at hx;rcases hx with rfl|rfl<;>(unfold gN;omega)) ⟨_,_,Z,by decide⟩⟩ rfl (λb aq r _=>⟨aq,_,r,by decide⟩) (by decide);obtain⟨B1,z,B2,T,B3,aN,B4,e4,B5,e5,B6,e6,B7,e7,B8,e8,e,i0,n1,n2,n3,n4,n5,n6,n7,n8⟩:=N.td.D;rw[e];exact⟨B1,z,B2,T,B3,aN,F,H,B5,e5,B6,e6,B7,e7,B8,e8,by simp,i0,n1,n2,n3,hs,n5,n6,n7,n8⟩)
 have ar:∀a∈f.a'++[(⟨nm,[(D:Int) - 1,(n:Int)]⟩:mS)],vA a:=λa ha=>by
  rcases jp.1 ha with h|h
  .exact HS.T.tn a h
  simp at h;subst h;exact⟨by show ip nm.length;unfold ip;omega,by show ip 2;unfold ip;omega⟩
 have av:mp {f with a':=f.a'++[(⟨nm,[(D:Int) - 1,(n:Int)]⟩:mS)]} := {HS.T with k:=HS.k.snoc _,tn:=ar}
 have sv:=bG 27 (by kernel_rfl);have ea:(Act.put {tmps:=nl a0.tmps 323 q,defers:=a0.defers} (some 340) (F (f.a'.length+1) H))={tmps:=nl a0.tmps 323 (q++[F (f.a'.length+1) H]),defers:=a0.defers} :=by simp only[Act.put];rw[Ba _ _ _ _ _ (by rw[V])]
 show wpList _ _ _ _ (Act.put _ (some 340) _) _;rw[ea];refine wpList_plain rfl λK hK=> ?_
 have T:=eval_at (a:= {tmps:=nl a0.tmps 323 (q++[F (f.a'.length+1) H]),defers:=a0.defers}) ((Uh 2 (by simp;omega) (.inl (by omega))).trans s);unfold Oper.wp execOp;simp only[T]
 go_simp
 refine hK _ _ ?_;rw[Ba _ _ _ _ _ (by simp[V])];clear hK T;refine wpList_plain rfl λK hK=> ?_
 have aa:323+(q++[Value.slice F (f.a'.length+1) H]++[Value.pointer (w,4)]).length<=a0.tmps.size:=by simp;omega
 have aN:=eval_at (a:= {tmps:=nl a0.tmps 323 (q++[F (f.a'.length+1) H]++[.pointer (w,4)]),defers:=a0.defers}) (uh (v:= .pointer (w,4)) 341 18 aa rfl (by simp[V]));have e4:=eval_at (a:= {tmps:=nl a0.tmps 323 (q++[F (f.a'.length+1) H]++[.pointer (w,4)]),defers:=a0.defers}) (uh (v:= F (f.a'.length+1) H) 340 17 aa rfl (by simp[V]));unfold Oper.wp execOp;simp only[aN,e4]
 go_simp
 refine hK _ _ ?_;exact hQ _ _ _ _ (by simp[V]) ap av
