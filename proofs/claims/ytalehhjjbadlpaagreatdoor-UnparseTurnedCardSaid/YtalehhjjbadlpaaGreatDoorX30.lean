/- Lemmas. -/
import Derived.Test.YtalehhjjbadlpaaGreatDoorX31
import Derived.Test.YtalehhjjbadlpaaGreatDoorPrF
set_option linter.all false
set_option maxRecDepth 100000
set_option maxHeartbeats 32000000
namespace Go.Proofs.YtalehhjjbadlpaaGreatDoor
open Go.RowKit
variable{w:World}{a:List Value}{A:Option Addr}(v:World){f:iu}
section
attribute [-go_sem] Builtin.append_
attribute [-go_sem] storeVar
theorem EV (f:iu)(A1 A2 A3 A4 A5 I aE K:Option Addr)(c1 c2 c3 c4 c5 c6 c7 c8:Nat)(i0:gN f.gt)(s1:Sl iA 9 v (Tf v) A1 f.ga)(s2:Sl kO 2 v (Tf v) A2 f.f6)(s3:Sl jn 3 v (Tf v) A3 f.ge)(s4:Sl kn 2 v (Tf v) A4 f.a')(s5:Sl kI 4 v (Tf v) A5 f.gM)(s6:Sl ko 1 v (Tf v) I f.d')(s7:Sl kx 1 v (Tf v) aE f.fY)(s8:Sl gS 1 v (Tf v) K f.gP)(o:pD f)(L:0<f.ga.length)(l p M:Int)(hq:(l.tmod 16+16).tmod 16=12):Calls Tryz.prog 4 #[.agg #[f.gt,A1 f.ga.length c1,A2 f.f6.length c2,A3 f.ge.length c3,A4 f.a'.length c4,A5 f.gM.length c5,I f.d'.length c6,aE f.fY.length c7,K f.gP.length c8],.agg #[l,p,M]] v (ny v):=by
 obtain⟨Wf,Wq,Wr,Wg,Wl,W1,G,cg,cl,Al,N,xN,oC,a,b,xR,xU,xJ,xH,O,xI,j2,j1,j0,q,n⟩:=kW v f A1 A2 A3 A4 A5 I aE K c1 c2 c3 c4 c5 c6 c7 c8 i0 s1 s2 s3 s4 s5 s6 s7 s8 o L l p M;have b1:=o.ga;have b2:=o.ge;unfold ki at b1 b2;have P:=J o;have vg:=bG 24 (by kernel_rfl);have vl:=bG 26 (by kernel_rfl);obtain⟨r2,s,ab,aa⟩:=bJ M 100 (by omega);obtain⟨Q,R,uY⟩:=aY (r2+(100:Nat)) 100 (by omega) (by omega);obtain⟨r1,S,ac,t⟩:=bJ p f.ga.length L;obtain⟨i,T,U⟩:=aY (r1+f.ga.length) f.ga.length L (by omega);have hK:0<f.ge.length->∃(r:Int) (k:Nat),p.tmod (f.ge.length:Int)=r/\ -(f.ge.length:Int)<r/\r<f.ge.length/\(r+f.ge.length).tmod (f.ge.length:Int)=(k:Int)/\k<f.ge.length:=λu=>by
  obtain⟨r,ha,hb,hc⟩:=bJ p f.ge.length u;obtain⟨k,hd,he⟩:=aY (r+f.ge.length) f.ge.length u (by omega);exact⟨r,k,ha,hb,hc,hd,he⟩
 have HK:=J hK;have bn:decide ((0:Int)<(f.ga.length:Int))=true:=decide_eq_true (by omega);have lh:((100:Nat):Int)=100:=rfl;rw[lh]at s R;clear o hK lh i0 s1 s2 s3 s4 s5 s6 s7 s8;obtain⟨mm,c⟩:∃m:Int,(l.tmod 16+16).tmod 16=m:=⟨_,rfl⟩
 rw[c]at hq;obtain⟨r0,V⟩:∃r:Int,l.tmod 16=r/\ -16<r/\r<16:=bJ l 16 (by omega);obtain⟨y,t,DD⟩:=V;rw[y]at c;go_enter Tryz.func4,Tryz.ntmps4
 go_upto_if 39 with fail
 try clear N
 try clear xN
 try clear oC
 clear xR xU a b j2 s T S bn;go_cut [9]from 40 to 50 (λw F=>∃k:Nat,w=.int .i64 k/\(0<f.ge.length->k<f.ge.length)/\Wl=F)
 case first=>
  by_cases u:0<f.ge.length
  .obtain⟨r,k,e1,e2,e3,e4,e5⟩:=HK u;have bp:decide ((0:Int)<(f.ge.length:Int))=true:=decide_eq_true (by omega);go_wp2_with fail
   go_meet
   exact⟨k,rfl,λ_=>e5,rfl⟩
  have bp:decide ((0:Int)<(f.ge.length:Int))=false:=decide_eq_false (by omega);go_wp2_with fail
  go_meet
  exact⟨0,rfl,λh=>absurd h u,rfl⟩
 case rest=>
 obtain⟨k,rfl,ad,rfl⟩:=hcut;clear HK j1
 go_upto_block 0 with fail
 try rw[q]
 clear vg vl q xJ O xH xI j0 y c;go_cut []from 60 to 374 (λF=>∃(g:iu) (W:List Value),TD v F Wq.heap.size W g/\mp g)
 case first=>
  have FW:=n.low.size;have qQ:Hid (Below v v W1):=J n.low;obtain⟨x,D3,d3,D4,d4,D5,d5,D6,d6,D7,d7,D8,d8,hx,l4,l5,l6,l7,l8,X,t4,t5,t6,t7,t8⟩:=n.z U;have HX:=J (P.z x (kj hx));have EC:G<W1.heap.size:=by obtain⟨gc,kD,h1,-⟩:=n.K;exact h1.lt
  have T4:=J t4;have T5:=J t5;have T6:=J t6;have T7:=J t7;have T8:=J t8;have bn:decide ((0:Int)<(f.ga.length:Int))=true:=decide_eq_true (by omega);clear X t4 t5 t6 t7 t8;subst hq;obtain⟨d,UO,GM⟩:=aY (Q:Int) 5 (by omega) (by omega);rw[show((5:Nat):Int)=5 from rfl]at UO;obtain⟨v4,z,Y⟩:=aY (Q:Int) 4 (by omega) (by omega);rw[show((4:Nat):Int)=4 from rfl]at z;have e:∃H:B,([.string ⟨#[108,105,103,97]⟩,.string ⟨#[120]⟩,.string ⟨#[116,111,111,108,111,110,103,110,97,109,101]⟩,.string ⟨#[97,49]⟩,.string ⟨#[]⟩]:List Value)[d]'(by simpa using GM)=.string H/\H.length<=17:=by
   have:d=0\/d=1\/d=2\/d=3\/d=4:=by omega
   rcases this with rfl|rfl|rfl|rfl|rfl<;>exact⟨_,rfl,by decide⟩
  obtain⟨H,e,Z⟩:=e;clear l4 l5 l6 l7 l8;go_wp2_with fail
  refine DO n P Q d v4 uY UO GM z Y H e Z _ _ (by kernel_rfl) _ _ rfl rfl rfl ?_;intro vs F g W hl j A;have jq:=J j;have jR:=J A;clear j A;obtain⟨z0,z1,z2,z3,z4,z5,z6,z7,z8,z9,ak,al,ao,ap,aq,ar,av,aw,ay,rfl⟩:=Tl hl;simp only[nl,qf,Nat.reduceAdd,Nat.add_zero,List.setIfInBounds_toArray,List.set_cons_zero,List.set_cons_succ];clear hl;go_wp2_with fail
  go_meet
  exact⟨_,_,jq,jR⟩
 case rest=>
 obtain⟨g,W,j,A⟩:=hcut;obtain⟨aD,C,D,E⟩:=j.fin A;have eX:=J C;have rO:=J D;have xC:=J E;have gV:=J j.box;obtain⟨B1,e1,B2,e2,B3,e3,B4,e4,B5,e5,B6,e6,B7,e7,B8,e8,rfl,-⟩:=j.D;obtain⟨k0,k1,k2,k3,k4,k5,k6,k7,k8⟩:=nine gV (gD _ _);clear C D E j A n P;go_wp2_with fail
 exact bodyPost_ret (iV eX rO) rfl xC
theorem E' (f:iu)(A1 A2 A3 A4 A5 H I ar:Option Addr)(c1 c2 c3 c4 c5 X Y Z:Nat)(i0:gN f.gt)(s1:Sl iA 9 v (Tf v) A1 f.ga)(s2:Sl kO 2 v (Tf v) A2 f.f6)(s3:Sl jn 3 v (Tf v) A3 f.ge)(s4:Sl kn 2 v (Tf v) A4 f.a')(s5:Sl kI 4 v (Tf v) A5 f.gM)(s6:Sl ko 1 v (Tf v) H f.d')(s7:Sl kx 1 v (Tf v) I f.fY)(s8:Sl gS 1 v (Tf v) ar f.gP)(n:pD f)(K:0<f.ga.length)(j o L:Int)(hq:(j.tmod 16+16).tmod 16=13):Calls Tryz.prog 4 #[.agg #[f.gt,A1 f.ga.length c1,A2 f.f6.length c2,A3 f.ge.length c3,A4 f.a'.length c4,A5 f.gM.length c5,H f.d'.length X,I f.fY.length Y,ar f.gP.length Z],.agg #[j,o,L]] v (ny v):=by
 obtain⟨Wf,Wq,Wr,Wg,Wl,W1,G,cg,cl,Al,M,xN,oC,a,b,xR,xU,xJ,xH,N,xI,j2,j1,j0,p,l⟩:=kW v f A1 A2 A3 A4 A5 H I ar c1 c2 c3 c4 c5 X Y Z i0 s1 s2 s3 s4 s5 s6 s7 s8 n K j o L;have b1:=n.ga;have b2:=n.ge;unfold ki at b1 b2;have O:=J n;have vg:=bG 24 (by kernel_rfl);have vl:=bG 26 (by kernel_rfl);obtain⟨r2,q,ab,aa⟩:=bJ L 100 (by omega);obtain⟨nn,P,uY⟩:=aY (r2+(100:Nat)) 100 (by omega) (by omega);obtain⟨r1,Q,ac,s⟩:=bJ o f.ga.length K;obtain⟨i,R,S⟩:=aY (r1+f.ga.length) f.ga.length K (by omega);have hK:0<f.ge.length->∃(r:Int) (k:Nat),o.tmod (f.ge.length:Int)=r/\ -(f.ge.length:Int)<r/\r<f.ge.length/\(r+f.ge.length).tmod (f.ge.length:Int)=(k:Int)/\k<f.ge.length:=λt=>by
  obtain⟨r,ha,hb,hc⟩:=bJ o f.ge.length t;obtain⟨k,hd,he⟩:=aY (r+f.ge.length) f.ge.length t (by omega);exact⟨r,k,ha,hb,hc,hd,he⟩
 have HK:=J hK;have bn:decide ((0:Int)<(f.ga.length:Int))=true:=decide_eq_true (by omega);have lh:((100:Nat):Int)=100:=rfl;rw[lh]at q P;clear n hK lh i0 s1 s2 s3 s4 s5 s6 s7 s8;obtain⟨mm,c⟩:∃m:Int,(j.tmod 16+16).tmod 16=m:=⟨_,rfl⟩
 rw[c]at hq;obtain⟨r0,T⟩:∃r:Int,j.tmod 16=r/\ -16<r/\r<16:=bJ j 16 (by omega);obtain⟨u,s,DD⟩:=T;rw[u]at c;go_enter Tryz.func4,Tryz.ntmps4
 go_upto_if 39 with fail
 try clear M
 try clear xN
 try clear oC
 clear xR xU a b j2 q R Q bn;go_cut [9]from 40 to 50 (λw E=>∃k:Nat,w=.int .i64 k/\(0<f.ge.length->k<f.ge.length)/\Wl=E)
 case first=>
  by_cases t:0<f.ge.length
  .obtain⟨r,k,e1,e2,e3,e4,e5⟩:=HK t;have bp:decide ((0:Int)<(f.ge.length:Int))=true:=decide_eq_true (by omega);go_wp2_with fail
   go_meet
   exact⟨k,rfl,λ_=>e5,rfl⟩
  have bp:decide ((0:Int)<(f.ge.length:Int))=false:=decide_eq_false (by omega);go_wp2_with fail
  go_meet
  exact⟨0,rfl,λh=>absurd h t,rfl⟩
 case rest=>
 obtain⟨k,rfl,ad,rfl⟩:=hcut;clear HK j1
 go_upto_block 0 with fail
 try rw[p]
 clear vg vl p xJ N xH xI j0 u c;go_cut []from 60 to 374 (λE=>∃(g:iu) (U:List Value),TD v E Wq.heap.size U g/\mp g)
 case first=>
  have FW:=l.low.size;have qQ:Hid (Below v v W1):=J l.low;obtain⟨x,D3,d3,D4,d4,D5,d5,D6,d6,D7,d7,D8,d8,hx,l4,l5,l6,l7,l8,V,t4,t5,t6,t7,t8⟩:=l.z S;have HX:=J (O.z x (kj hx));have EC:G<W1.heap.size:=by obtain⟨gc,kD,h1,-⟩:=l.K;exact h1.lt
  have T4:=J t4;have T5:=J t5;have T6:=J t6;have T7:=J t7;have T8:=J t8;have bn:decide ((0:Int)<(f.ga.length:Int))=true:=decide_eq_true (by omega);clear V t4 t5 t6 t7 t8;subst hq;obtain⟨y,UO,GM⟩:=aY (nn:Int) 3 (by omega) (by omega);rw[show((3:Nat):Int)=3 from rfl]at UO;have d:∃F:B,([.string ⟨#[97,120,97]⟩,.string ⟨#[113]⟩,.string ⟨#[]⟩]:List Value)[y]'(by simpa using GM)=.string F/\F.length<=17:=by
   have:y=0\/y=1\/y=2:=by omega
   rcases this with rfl|rfl|rfl<;>exact⟨_,rfl,by decide⟩
  obtain⟨F,d,W⟩:=d;clear l4 l5 l6 l7 l8;go_wp2_with fail
  refine Hc l O nn y uY UO GM F d W _ _ (by kernel_rfl) _ _ rfl rfl rfl ?_;intro vs E g U hl e z;have jq:=J e;have jR:=J z;clear e z;obtain⟨z0,z1,z2,z3,z4,z5,z6,z7,z8,z9,ak,al,ao,ap,rfl⟩:=Tk hl;simp only[nl,qf,Nat.reduceAdd,Nat.add_zero,List.setIfInBounds_toArray,List.set_cons_zero,List.set_cons_succ];clear hl;go_wp2_with fail
  go_meet
  exact⟨_,_,jq,jR⟩
 case rest=>
 obtain⟨g,U,e,z⟩:=hcut;obtain⟨aq,A,C,D⟩:=e.fin z;have eX:=J A;have rO:=J C;have xC:=J D;have gV:=J e.box;obtain⟨B1,e1,B2,e2,B3,e3,B4,e4,B5,e5,B6,e6,B7,e7,B8,e8,rfl,-⟩:=e.D;obtain⟨k0,k1,k2,k3,k4,k5,k6,k7,k8⟩:=nine gV (gD _ _);clear A C D e z l O;go_wp2_with fail
 exact bodyPost_ret (iV eX rO) rfl xC
end
theorem Fc (f:iu)(P:List Value)(K:kt v (Tf v) P f)(d:pD f)(e:0<f.ga.length)(a b c:Int):Calls Tryz.prog 4 #[.agg P.toArray,.agg #[a,b,c]] v (ny v):=by
 obtain⟨g,h,i,c2,j,c3,k,l,n,o,p,q,r,s,t,u,rfl,w,x,y,z,A,B,C,D,E⟩:=K;obtain⟨L,G,M,N⟩:=bJ a 16 (by omega);obtain⟨m,H,O⟩:=aY (L+(16:Nat)) 16 (by omega) (by omega);have I:((16:Nat):Int)=16:=rfl;rw[I]at G H;have F:(a.tmod 16+16).tmod 16=(m:Int):=by rw[G,H]
 have:m=0\/m=1\/m=2\/m=3\/m=4\/m=5\/m=6\/m=7\/m=8\/m=9\/m=10\/m=11\/m=12\/m=13\/m=14\/m=15:=by omega
 rcases this with rfl|rfl|rfl|rfl|rfl|rfl|rfl|rfl|rfl|rfl|rfl|rfl|rfl|rfl|rfl|rfl
 .exact Gz v f g i j k n p r t h c2 c3 l o q s u w x y z A B C D E d e a b c (.inl F)
 .exact Gz v f g i j k n p r t h c2 c3 l o q s u w x y z A B C D E d e a b c (.inr (.inl F))
 .exact Gz v f g i j k n p r t h c2 c3 l o q s u w x y z A B C D E d e a b c (.inr (.inr F))
 .exact GG v f g i j k n p r t h c2 c3 l o q s u w x y z A B C D E d e a b c (.inl F)
 .exact GG v f g i j k n p r t h c2 c3 l o q s u w x y z A B C D E d e a b c (.inr (.inl F))
 .exact GG v f g i j k n p r t h c2 c3 l o q s u w x y z A B C D E d e a b c (.inr (.inr F))
 .exact GH v f g i j k n p r t h c2 c3 l o q s u w x y z A B C D E d e a b c (.inl F)
 .exact GH v f g i j k n p r t h c2 c3 l o q s u w x y z A B C D E d e a b c (.inr (.inl F))
 .exact GH v f g i j k n p r t h c2 c3 l o q s u w x y z A B C D E d e a b c (.inr (.inr F))
 .exact PX v f g i j k n p r t h c2 c3 l o q s u w x y z A B C D E d e a b c (.inl F)
 .exact PX v f g i j k n p r t h c2 c3 l o q s u w x y z A B C D E d e a b c (.inr F)
 .exact PY v f g i j k n p r t h c2 c3 l o q s u w x y z A B C D E d e a b c (.inl F)
 .exact EV v f g i j k n p r t h c2 c3 l o q s u w x y z A B C D E d e a b c F
 .exact E' v f g i j k n p r t h c2 c3 l o q s u w x y z A B C D E d e a b c F
 .exact PY v f g i j k n p r t h c2 c3 l o q s u w x y z A B C D E d e a b c (.inr F)
 exact EJ v f g i j k n p r t h c2 c3 l o q s u w x y z A B C D E d e a b c F
section
attribute [-go_sem] storeVar
theorem kt.vf {w':World}{c:List Value}(h:kt w (Tf w) c f)(d:Below w.heap.size w w'):kt w' (Tf w') c f:=kt.ok.mono (kt.ok.keep h (λb a=>d.block b (Tf.lt b a))) (Tf.low d)
theorem kt.yi (h:kt w (Tf w) a f):kt w (Lw w) a f:=kt.ok.mono h Tf.lt
theorem kt.BY {L M N O a b c:Option Addr}{c1 c2 c3 c4 c5 d g i:Nat}(h:kt w (Lw w) [.int .i64 f.gt,.slice A f.ga.length c1,.slice L f.f6.length c2,.slice M f.ge.length c3,.slice N f.a'.length c4,.slice O f.gM.length c5,.slice a f.d'.length d,.slice b f.fY.length g,.slice c f.gP.length i] f):oS ⟨A,c1,L,c2,M,c3,N,c4,O,c5,a,d,b,g,c,i⟩ f w:=by obtain⟨s,t,u,v,x,y,z,K,B,C,D,E,F,G,H,I,e,j,k,l,m,n,o,p,q,r⟩:=h;simp only[tA,oa,and_true,true_and]at e;obtain⟨⟨rfl,rfl⟩,⟨rfl,rfl⟩,⟨rfl,rfl⟩,⟨rfl,rfl⟩,⟨rfl,rfl⟩,⟨rfl,rfl⟩,⟨rfl,rfl⟩,⟨rfl,rfl⟩⟩:=e;exact⟨j,k,l,m,n,o,p,q,r⟩
theorem US (h:pj f):∀g∈f.ga,g.gk.length<=1000000000/\g.gO.length<=1000000000:=λg c=>by
 have k:=h.ga.each g c;have a:=k.h.1;have b:=k.gO.1;exact⟨by omega,by omega⟩
theorem tP.i (h:tP f):pD f:=by
 have hs:=h.small;refine⟨⟨by have:=hs.ga.1;unfold ip;omega,by have:=hs.f6;unfold ip;omega,by have:=hs.ge.1;unfold ip;omega,by have:=hs.k.1;unfold ip;omega,by have:=hs.gM;unfold ip;omega,by have:=hs.e.1;unfold ip;omega,by have:=hs.fY.1;unfold ip;omega,by have:=hs.gP;unfold ip;omega,λg b=> ?_,λl c=> ?_,λx e=> ?_,λa j=> ?_,λr d=> ?_,λp m=> ?_⟩,by have:=hs.ga.1;unfold ki;omega,by have:=hs.f6;unfold ki;omega,by have:=hs.ge.1;unfold ki;omega,by have:=hs.k.1;unfold ki;omega,by have:=hs.gM;unfold ki;omega,by have:=hs.e.1;unfold ki;omega,by have:=hs.fY.1;unfold ki;omega,by have:=hs.gP;unfold ki;omega,λg b=> ?_,λl c=> ?_⟩
 .have k:=hs.ga.2 g b;have n:=oM (h.right.ga g b).gn;have i:=k.h;have o:=k.gO;have t:=k.gi;have u:=k.M;have v:=k.o;have w:=k.gR;exact⟨by unfold ip;omega,by unfold ip;omega,by unfold ip;omega,by unfold ip;omega,by unfold ip;omega,by unfold ip;omega,by unfold ip;omega⟩
 .have k:=hs.ge.2 l c;have i:=k.1;refine⟨by unfold ip;omega,λr d=> ?_⟩;have q:=k.2 r d;obtain⟨B,C,D⟩:=q.rows;obtain⟨y,z,A⟩:=q.N;obtain⟨E,F⟩:=q.outs;refine⟨⟨by unfold ip;omega,by unfold ip;omega,by unfold ip;omega,by unfold ip;omega,by unfold ip;omega⟩,λs hs=> ?_⟩;rw[jp,jp]at hs;unfold ip;rcases hs with(hs|hs)|hs
  .have:=y s hs;omega
  .have:=z s hs;omega
  have:=A s hs;omega
 .have n:=oM (h.right.k x e).1;have k:=hs.k.2 x e;exact⟨by unfold ip;omega,by unfold ip;omega⟩
 .have n:=oM (h.right.gM a j).1;unfold ip;omega
 .have k:=hs.e.2 r d;unfold ip;omega
 .have k:=hs.fY.2 p m;unfold ip;omega
 .have k:=hs.ga.2 g b;have n:=oM (h.right.ga g b).gn;have i:=k.h;have o:=k.gO;have t:=k.gi;have u:=k.M;have v:=k.o;have w:=k.gR;exact⟨by unfold ki;omega,by unfold ki;omega,by unfold ki;omega,by unfold ki;omega,by unfold ki;omega,by unfold ki;omega,by unfold ki;omega⟩
 have k:=(hs.ge.2 l c).1;unfold ki;omega
def yY (i:Nat):Nat:=if i=4 then 5 else 9+i
def tg (d:World)(A:Option Addr)(n c:Nat)(e g h:Int):Nat->Value->World->Prop
 |0,v,_=>v=.slice A n c
 |1,v,w=>∃(f:iu) (a:List Value),v=.agg a.toArray/\tP f/\kt w (Tf w) a f
 |2,v,_=>v=.agg #[.int .i64 e,.int .i64 g,.int .i64 h]
 |3,v,w=>∃(f:iu) (a:List Value),v=.agg a.toArray/\mp f/\kt w (Tf w) a f
 |_,v,w=>∃b,v=.pointer (some ⟨b,0,none⟩)/\d.heap.size<=b/\Bk w b gI i'
theorem tg.below {k:World}{n c:Nat}{l m o:Int}(i:Nat)(v:Value)(w w':World)(g:Below w.heap.size w w')(h:tg k A n c l m o i v w):tg k A n c l m o i v w':=by
 unfold tg at h ⊢;split at h
 .exact h
 .obtain⟨f,j,a,d,e⟩:=h;exact⟨f,j,a,d,e.vf g⟩
 .exact h
 .obtain⟨f,j,a,d,e⟩:=h;exact⟨f,j,a,d,e.vf g⟩
 obtain⟨b,a,d,e⟩:=h;exact⟨b,a,d,e.l g⟩
theorem Vv (h:a.length=5):∃b c d e f,a=[b,c,d,e,f]:=
 match a,h with
 |[b,c,d,e,f],_=>⟨b,c,d,e,f,rfl⟩
theorem Fi {y:World}{n c:Nat}{O R S:Int}(VJ:Hid (Below w.heap.size w y))(T:Hid (Bk y w.heap.size 23 #[.int .i64 O,.int .i64 R,.int .i64 S]))(U:Hid (∀v,Below w.heap.size w v->Calls Tryz.prog 5 #[.slice A n c] v (yV v)))(ak:Array Oper)(dr:Bool)(g:Tryz.f3.body.bind (oN 1)=some (ak,dr))(Q:Exit->Act->World->Prop)(a0:Act)(hz:a0.tmps.size=38)(t0:a0.tmps[0]?=some (.slice A n c))(t3:a0.tmps[3]?=some (.pointer (some ⟨w.heap.size,0,none⟩)))(hQ:∀(z B C V:Value) (b:Nat) (E:World) (h:iu) (g:List Value),mp h->kt E (Tf E) g h->Bk E b gI g.toArray->Below y.heap.size y E->Q .normal {tmps:=qf a0.tmps yY 0 [z,B,C,V,.pointer (some ⟨b,0,none⟩)],defers:=a0.defers} E):Code.wp Tryz.prog (.region 1 ak dr) Q a0 y:=by
 simp only[Tryz.f3,Option.bind_some,oN,reduceIte,Nat.reduceEqDiff,reduceCtorEq,n',rE]at g;obtain⟨rfl,rfl⟩:=g;have zt:=VJ.out.size;have p:∀i,i<5->yY i<38/\yY i≠0/\yY i≠3:=by decide
 refine GY 5 yY (tg y A n c O R S) (by kernel_rfl) (by kernel_rfl) (by decide) (by kernel_rfl) (by kernel_rfl) (by intro i j r L;unfold yY;split<;>split<;>omega) (λi h=>by rw[hz];exact(p i h).1) tg.below ?_ ?_
 .intro i o hi F a v l d W;have X:=(l 0 (λi h=>(p i h).2.1)).trans t0;have Y:=(l 3 (λi h=>(p i h).2.2)).trans t3;have u0:=eval_at X;have u3:=eval_at Y;have s:i=0\/i=1\/i=2\/i=3\/i=4:=by omega
  have zv:=d.size;clear l hQ t0 t3;rcases s with rfl|rfl|rfl|rfl|rfl
  .cases F
   go_simp
   exact⟨_,rfl,gD _ _,rfl⟩
  .cases F;obtain⟨_,r,rfl⟩:=W 0 (by kernel_rfl);change a.tmps[9]?=_ at r;have u1:=eval_at r
   go_simp
   refine(U.out v (VJ.out.trans (d.mono zt))).mono ?_;rintro e w1 ⟨f,M,D,rfl,q,u⟩;exact⟨_,rfl,u,f,M,rfl,D,q⟩
  .cases F;have j0:=T.out.at d 0 rfl;have j1:=T.out.at d 1 rfl;have j2:=T.out.at d 2 rfl
   go_simp
   exact⟨_,rfl,gD _ _,rfl⟩
  .cases F;obtain⟨_,r,f,M,rfl,D,q⟩:=W 1 (by kernel_rfl);obtain⟨_,L,rfl⟩:=W 2 (by kernel_rfl);change a.tmps[10]?=_ at r;change a.tmps[11]?=_ at L;have u1:=eval_at r;have u2:=eval_at L
   go_simp
   refine(Fc v f _ q D.i D.two O R S).mono ?_;rintro e w1 ⟨f,M,D,rfl,q,u⟩;exact⟨_,rfl,u,f,M,rfl,D,q⟩
  cases F
  go_simp
  exact⟨_,rfl,(gD _ _).alloc (ae _) _,_,rfl,zv,Bk.new _ _ _⟩
 intro vs v hl d q;obtain⟨z,B,C,V,z4,rfl⟩:=Vv hl;obtain⟨h,g,rfl,hB,G⟩:=q 3 V rfl;obtain⟨b,rfl,hb,m⟩:=q 4 z4 rfl;obtain⟨h9,H⟩:=TJ G;have I:∀x,x≠b->(v.setRow b g.toArray).heap[x]?=v.heap[x]? :=λx N=>setRow_other v _ x _ N
 have Z:∀x,Tf v x->x≠b:=by rintro x ⟨c,t,hk,ht⟩ rfl;have:=(dw hk m).1;subst this;exact absurd ht (by decide)
 have ab:=run_storeVar_row (P:=Tryz.prog) v b gI gI i' g.toArray m (by rw[zJ,List.size_toArray,h9]) (by simp[i',h9]) H;have ad:∀i,i<5->yY i<a0.tmps.size:=λi h=>by rw[hz];exact(p i h).1
 have hj:∀a b:Nat,0<=a->a<b->b<0+5->yY a≠yY b:=by intro i j _ r L;unfold yY;split<;>split<;>omega
 have u5:=eval_at (a:= {tmps:=qf a0.tmps yY 0 [z,B,C,.agg g.toArray,.pointer (some ⟨b,0,none⟩)],defers:=a0.defers}) (k:=5) (Ii (sl:=yY) [z,B,C,.agg g.toArray,.pointer (some ⟨b,0,none⟩)] a0.tmps 0 hj (λa _ h=>ad a (by simpa using h)) 4 _ rfl);have aa:=eval_at (a:= {tmps:=qf a0.tmps yY 0 [z,B,C,.agg g.toArray,.pointer (some ⟨b,0,none⟩)],defers:=a0.defers}) (k:=12) (Ii (sl:=yY) [z,B,C,.agg g.toArray,.pointer (some ⟨b,0,none⟩)] a0.tmps 0 hj (λa _ h=>ad a (by simpa using h)) 3 _ rfl);simp only[List.drop_succ_cons,List.drop_zero];refine wpList_plain rfl λK hK=> ?_
 unfold Oper.wp execOp;simp only[u5,aa]
 go_simp
 refine hK _ _ ?_;exact hQ _ _ _ _ b _ h g hB (G.C λx N=>I x (Z x N)) (setRow_heap v _ i' g.toArray gI (0,0) m) (d.trans ⟨rfl,rfl,rfl,by simp,λx N=>I x (by omega)⟩)
end
theorem Tf.ft:∀b,Tf w b->FT w b:=λ_ ⟨_,t,d,c⟩=>by
 have a:∀t∈UN,t≠5/\t≠108:=by decide
 exact Hy d (a t c).1 (a t c).2
theorem Dt.ft:∀b,Dt w b->FT w b:=λ_ ⟨_,t,c,a⟩=>by
 refine Hy c (λe=> ?_) (λe=> ?_)
 .subst e;exact absurd a (by decide)
 subst e;exact absurd a (by decide)
theorem Dt.Cg:∀b,Dt w b->b<w.heap.size:=λ_ ⟨_,_,h,_⟩=>h.lt
theorem kt.dt {w':World}{c:List Value}(h:kt w (Dt w) c f)(d:Below w w w'):kt w' (Dt w') c f:=
 kt.ok.mono (kt.ok.keep h (λb a=>d.block b (Dt.Cg b a))) (λb a=>by
  obtain⟨g,t,e,i⟩:=a;exact⟨g,t,(d.block b e.lt).trans e,i⟩)
theorem kt.dtl (h:kt w (Dt w) a f):kt w (Lw w) a f:=kt.ok.mono h Dt.Cg
theorem IY (A:Option Addr)(n c:Nat)(zs:List Int)(hc:n<=c)(hr:Rd v v.heap.size A n 1 (aC zs))(hz:∀z∈zs,gN z)(q0 q1 q2:Int)(al:(Lit.int .i64 q0).wf=true)(ao:(Lit.int .i64 q1).wf=true)(ap:(Lit.int .i64 q2).wf=true)(hT:iN v)(hG:nG<=v)(kL:mB v)(EE:nT<=v):
  Calls Tryz.prog 3 #[A n c,.agg #[q0,q1,q2]] v λe w'=>e=.returned (.bool true)/\Below v v w':=by
 obtain⟨Wt,N,p,O⟩:=aO v 23 #[q0,q1,q2];have VJ:Hid (Below v v Wt):=J p;have VM:=J O;have zt:=p.size;have P:=J (λ(w:World) (a:Below v v w)=>Kj w A n c zs hc ((hr.below a (ae _)).mono a.size) hz);have q:=J (λ(w:World) (a:Below v v w)=>Y1 w (hT.all a) (nt hG a.size));have Q:=J (λ(w:World) (a:Below v v w) (t:B) (ht:t.length<=800000000)=>TW w t ht (kL.below a) (nt EE a.size));have R:=J (λ(w:World) (a:Below v v w) (f:iu) (fc:List Value) (hf:kt w (Tf w) fc f) (k:pj f)=>ZE w f fc (hT.all a) (nt hG a.size) (kt.ok.mono hf Tf.ft) (US k) (nt k.len (by decide)));clear hr hz hT hG kL EE p O al ao ap;go_enter Tryz.func3,Tryz.ntmps3
 go_upto_region 1 with fail
 try rw[N]
 try clear N
 refine Fi VJ VM P _ _ (by kernel_rfl) _ _ rfl rfl rfl ?_;intro z0 z1 z2 z3 b g h hc T hf k U;have r:=J T;have l:=J hf;obtain⟨C1,e1,C2,e2,C3,e3,C4,e4,C5,e5,C6,e6,C7,e7,C8,e8,rfl,-⟩:=hf;have V:Hid (Below v v g):=J (VJ.trans (U.mono zt));have lM:=J k;have aq:=V.size;obtain⟨E,F,G,H,I,aD,K,L,M⟩:=nine k (gD _ _);have jR:=J (Qf g h C1 C2 C3 C4 C5 C6 C7 C8 e1 e2 e3 e4 e5 e6 e7 e8 (kt.BY l.yi) r);clear T U k VJ VM P;simp only[qf,yY,reduceIte,Nat.reduceAdd,Nat.reduceEqDiff,Nat.add_zero,List.setIfInBounds_toArray,List.set_cons_zero,List.set_cons_succ];go_wp2_with fail
 refine jR.mono ?_;rintro e w4 ⟨b,rfl,m⟩;have XA:Hid (Below g g w4):=J m;have d:Hid (Below v v w4):=J (V.trans (m.mono aq));have z4:=m.size;clear m jR E F G H I aD K L M;cases b
 .obtain⟨E,F,G,H,I,aD,K,L,M⟩:=nine lM XA;have W:=J (l.vf XA);have X:=J (J' w4 h C1 C2 C3 C4 C5 C6 C7 C8 e1 e2 e3 e4 e5 e6 e7 e8 (kt.BY W.yi) r);go_wp2_with fail
  refine X.mono ?_;rintro e w5 ⟨b,rfl,k,s⟩;have Y:Hid (Below g g w5):=J (XA.trans (s.mono z4));have u:Hid (Below v v w5):=J (d.trans (s.mono d.size));have z5:=Y.size;clear s X E F G H I aD K L M XA W d;cases b
  .clear k;go_wp2_with fail
   refine(q _ u).mono ?_;rintro e Z ⟨rfl,o⟩;have gV:Hid (Below v v Z):=J (u.trans (o.mono u.size));clear o;go_wp2_with fail
   go_ret
   exact⟨rfl,gV⟩
  have HK:=J (k rfl);have aa:=J (R w5 u h _ (l.vf Y) HK);obtain⟨E,F,G,H,I,aD,K,L,M⟩:=nine lM Y;have ar:(mD h).length<=800000000:=nt HK.len (by decide);have x:=J (λw (a:Below v v w)=>Q w a (mD h) ar);rw[YV HK.out.right]at x;have ab:=HK.print;clear k R Q r HK;generalize mD h=S at*
  go_wp2_with fail
  refine aa.mono ?_;rintro e w6 ⟨rfl,y⟩;have C:Hid (Below g g w6):=J (Y.trans (y.mono z5));have iM:Hid (Below v v w6):=J (u.trans (y.mono u.size));have z6:=C.size;clear E F G H I aD K L M aa y Y u;go_wp2_with fail
  refine(x w6 iM).mono ?_;rintro e w7 ⟨i,gc,rfl,hg⟩;have HG:=J hg;obtain⟨B1,d1,B2,d2,B3,d3,B4,d4,B5,d5,B6,d6,B7,d7,B8,d8,rfl,-⟩:=hg;obtain⟨W7,av,uT,ac⟩:=aO w7 32 #[h.gt,B1 h.ga.length d1,B2 h.f6.length d2,B3 h.ge.length d3,B4 h.a'.length d4,B5 h.gM.length d5,B6 h.d'.length d6,B7 h.fY.length d7,B8 h.gP.length d8];have ad:Hid (Below g g W7):=J (C.trans ((i.trans (uT.mono i.size)).mono z6));have oV:Hid (Below v v W7):=J (iM.trans ((i.trans (uT.mono i.size)).mono iM.size));have VK:=J (kt.dt HG uT);have aw:=J ac;have z7:=ad.size;clear i uT ac x HG C iM;go_wp2_with fail
  try clear av
  refine(q W7 oV).mono ?_;rintro e w8 ⟨rfl,j⟩;have ak:Hid (Below g g w8):=J (ad.trans (j.mono z7));have lL:Hid (Below v v w8):=J (oV.trans (j.mono oV.size));obtain⟨E,F,G,H,I,aD,K,L,M⟩:=nine lM ak;obtain⟨j0,j1,j2,j3,j4,j5,j6,j7,j8⟩:=nine aw j;have D:=No w8 h h _ _ (l.vf ak).yi (kt.dtl (kt.dt VK j)) ab ab;simp only[beq_self_eq_true]at D;have ay:=J D;clear j D;go_wp2_with fail
  refine ay.mono ?_;rintro e Z ⟨rfl,o⟩;have gV:Hid (Below v v Z):=J (lL.trans (o.mono lL.size));clear o;go_wp2_with fail
  go_ret
  exact⟨rfl,gV⟩
 go_wp2_with fail
 refine(q _ d).mono ?_;rintro e Z ⟨rfl,o⟩;have gV:Hid (Below v v Z):=J (d.trans (o.mono d.size));clear o;go_wp2_with fail
 go_ret
 exact⟨rfl,gV⟩
