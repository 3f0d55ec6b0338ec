/- Lemmas. -/
import Derived.Test.YtalehhjjbadlpaaGreatDoorX19
import Derived.Test.YtalehhjjbadlpaaGreatDoorPbF
import Derived.Laws.CopyOwn
set_option linter.all false
set_option maxRecDepth 100000
set_option maxHeartbeats 32000000
namespace Go.Proofs.YtalehhjjbadlpaaGreatDoor
open Go.RowKit
variable{w W:World}{b g m a:Nat}(v:World){A:Option Addr}{h:Array Value}{l:List Int}{t:TypeId}{d e:Value}{y:Int}{α:Type}
theorem OF:(Tryz.prog.info? 22).map (λi=>(i.zero,i.size,i.bytes))=some (some (.slice none 0 0),1,24):=by kernel_rfl
theorem Ol {v:List (List Int)}(h:Sl gT 1 w (Lw w) A v):∃t,Fl gT 1 w (Lw w) t v/\Rd w w.heap.size A v.length 1 t/\∀u∈t,u.oneCell'=true:=by
 obtain⟨t,a,f⟩:=h;refine⟨t,a,⟨a.1,λg=> ?_⟩,λu i=> ?_⟩
 .obtain⟨b,o,e,j,c⟩:=f g;exact⟨b,o,e,j,c⟩
 obtain⟨k,d⟩:=pn.1 i;have l:=(ll.1 d).1;have p:=a.1;obtain⟨x,m⟩:∃x,v[k]?=some x:=⟨_,jO (by omega)⟩
 obtain⟨q,n,c⟩:=a.2 k x m;obtain⟨r,s,rfl,-⟩:=n;have:=c.2 0 _ rfl;simp only[Nat.mul_one,Nat.add_zero]at this;rw[d]at this;cases this;rfl
theorem Kb (f:iu)(A1 A2 A3 A4 A5 M N O:Option Addr)(c1 c2 c3 c4 c5 Q R S:Nat)(r:k')(H I al C3 C4:Option Addr)(T U V e3 e4:Nat)(h0:Sl gT 1 v (Lw v) H r.gE)(h1:Sl gT 1 v (Lw v) I r.ij)(h2:Sl gT 1 v (Lw v) al r.ahead)(hl:r.gE.length<=6/\r.ij.length<=6/\r.ahead.length<=6)(hs:∀s∈r.gE++r.ij++r.ahead,ip s.length)(hn:ip f.ga.length):Calls Tryz.prog 126 #[.agg #[f.gt,A1 f.ga.length c1,A2 f.f6.length c2,A3 f.ge.length c3,A4 f.a'.length c4,A5 f.gM.length c5,M f.d'.length Q,N f.fY.length R,O f.gP.length S],.agg #[H r.gE.length T,I r.ij.length U,al r.ahead.length V,C3 r.out.length e3,C4 r.gw.length e4,r.x]] v (iz v (∀s∈r.gE++r.ij++r.ahead,pf f.ga.length s)):=by
 obtain⟨P,HP⟩:∃P:Prop,Hid (P=(∀s∈r.gE++r.ij++r.ahead,pf f.ga.length s)):=⟨_,rfl⟩
 rw[<-HP.out];obtain⟨l0,l1,l2⟩:=hl;unfold ip at hn;obtain⟨t,W,m,bV⟩:=aO v 32 #[f.gt,A1 f.ga.length c1,A2 f.f6.length c2,A3 f.ge.length c3,A4 f.a'.length c4,A5 f.gM.length c5,M f.d'.length Q,N f.fY.length R,O f.gP.length S];have bH:Hid (Below v v t):=J m;obtain⟨a,oC,d,n⟩:=aO t 69 #[H r.gE.length T,I r.ij.length U,al r.ahead.length V,C3 r.out.length e3,C4 r.gw.length e4,r.x];have nH:Hid (Below v v a):=J (bH.out.trans (d.mono bH.out.size));have p:=J n;have aQ:Hid (Bk a v.heap.size 32 #[f.gt,A1 f.ga.length c1,A2 f.f6.length c2,A3 f.ge.length c3,A4 f.a'.length c4,A5 f.gM.length c5,M f.d'.length Q,N f.fY.length R,O f.gP.length S]):=J (Bk.l bV d);obtain⟨x0,F0,R0,O0⟩:=Ol ((h0.lw gT.ok m).lw gT.ok d);obtain⟨x1,F1,R1,O1⟩:=Ol ((h1.lw gT.ok m).lw gT.ok d);obtain⟨x2,F2,R2,O2⟩:=Ol ((h2.lw gT.ok m).lw gT.ok d);have HF:=J ((F0.append F1).append F2);have Q0:=J R0;have Q1:=J R1;have Q2:=J R2;have T0:=J O0;have T1:=J O1;have T2:=J O2;have jc:=nH.out.size;have y0:=n.cell 0;have y1:=n.cell 1;have y2:=n.cell 2;have SR:a.cell? (t,0)=some (H r.gE.length T)/\a.cell? (t,1)=some (I r.ij.length U)/\a.cell? (t,2)=some (al r.ahead.length V):=⟨y0,y1,y2⟩
 obtain⟨i0,y,z,A,B⟩:=info_parts OF;clear m d bV n h0 h1 h2 F0 F1 F2 R0 R1 R2 O0 O1 O2 y0 y1 y2;go_enter Tryz.func126,Tryz.ntmps126
 go_upto_block 0 with fail
 try rw[W]
 try rw[oC]
 clear W oC;go_wp2_with fail
 go_region_held3 (λc=>c.cell? (t,0)=some (H r.gE.length T)/\c.cell? (t,1)=some (I r.ij.length U)/\c.cell? (t,2)=some (al r.ahead.length V))
  (first
   |with_reducible exact S2
   |with_reducible exact S3
   |with_reducible exact S4
   |exact SR
   |go_keep)
  (first
   |(refine mY _ (by rfl) (.tmp 8) (.tmp 10) 66 (by rfl) a.heap.size 22 i0 _ 1 24 Tryz.underlying66 y z A B rfl (by decide) (.slice (a,0) 0 0) 0 [] (by go_simp) (by exact(World.ownsRow_made a #[] 0 (ae _) (by simp[maxLen]) rfl).drew) a.heap.size H r.gE.length T x0 (by go_simp) (by exact(Q0.out.alloc (ae _) _).drew) T0.out (by simp only[maxLen];omega) (by omega) (by simp) ?_;intro v2 w2 o2 g2 _;simp only[mU,pG]at o2;have C:Hid (Below a a w2):=J ((((gD _ a).alloc (ae _) _).drew).grown g2 (by simp) (λg D=>by cases D;exact ae _));have S2:=And.intro (p.out.at C.out 0 rfl) (And.intro (p.out.at C.out 1 rfl) (p.out.at C.out 2 rfl));have z2:=C.out.size)
   |(refine mY _ (by rfl) (.tmp 11) (.tmp 13) 66 (by rfl) a.heap.size 22 i0 _ 1 24 Tryz.underlying66 y z A B rfl (by decide) v2 r.gE.length x0 (by go_simp) o2 a.heap.size I r.ij.length U x1 (by go_simp) (Q1.out.below C.out (ae _)) T1.out (by simp only[maxLen];omega) (by omega) C.out.size ?_;intro v3 w3 o3 g3 _;have E:Hid (Below a a w3):=J (C.out.grown g3 z2 (λg D=>(o2.lt g D).1));have S3:=And.intro (p.out.at E.out 0 rfl) (And.intro (p.out.at E.out 1 rfl) (p.out.at E.out 2 rfl));have z3:=E.out.size)
   |(refine mY _ (by rfl) (.tmp 14) (.tmp 16) 66 (by rfl) a.heap.size 22 i0 _ 1 24 Tryz.underlying66 y z A B rfl (by decide) v3 (r.gE.length+r.ij.length) (x0++x1) (by go_simp) o3 a.heap.size al r.ahead.length V x2 (by go_simp) (Q2.out.below E.out (ae _)) T2.out (by simp only[maxLen];omega) (by omega) E.out.size ?_;intro v4 l o4 g4 _;have u:Hid (Below a a l):=J (E.out.grown g4 z3 (λg D=>(o3.lt g D).1));have S4:=And.intro (p.out.at u.out 0 rfl) (And.intro (p.out.at u.out 1 rfl) (p.out.at u.out 2 rfl));have z4:=u.out.size)
   |fail "no arm")
 obtain⟨L,hL⟩:∃L,Hid (L=r.gE++r.ij++r.ahead):=⟨_,rfl⟩
 have w:r.gE.length+r.ij.length+r.ahead.length=L.length:=by rw[hL.out,la,la]
 rw[<-hL.out]at HF hs HP;rw[w]at o4;have ad:L.length<=18:=by omega
 obtain⟨A9,d9,rfl,-⟩:=Rd.U o4;have sm:Same (Lw a) a l:=λb K=>u.out.block b K
 have HS:Hid (Sl gT 1 l (Lw l) A9 L):=J (Sl.U o4 ((HF.out.keep gT.ok sm).mono gT.ok λb K=>mz K u.out.size) (λb ak h=>h.lt) (by decide));clear o2 o3 o4 g2 g3 g4 S2 S3 S4 SR z2 z3 z4 sm HF Q0 Q1 Q2 T0 T1 T2 w;have Hs:=J hs;clear hs;go_wp2_with fail
 go_loopw [6] (λi wr=>∃k:Nat,k<=L.length/\i=.int .i64 k/\Hid (Up L k (pf f.ga.length))/\Below l l wr) (λi _=>L.length - (intOf i).toNat)
 case atStart=>exact⟨0,by omega,rfl,J (Up.zero _ _),gD _ _⟩
 case round=>
  obtain⟨q,rfl⟩:∃x,x=wr:=⟨_,rfl⟩
  obtain⟨k,hk,rfl,X,j⟩:=hrel;have Y:Below a a q:=u.out.trans (j.mono u.out.size);have E5:Hid (Below v v q):=J (nH.out.trans (Y.mono jc));by_cases aa:k<L.length
  .obtain⟨b,o,x,B1,t1,rfl,K,hx,q0,s0⟩:=(HS.out.lw gT.ok j).row aa;have HQ:=J s0;have ab:=Hs.out x (kj hx.out);have F:Hid (Below a a q.drew):=J Y.drew;have yR:Hid (Below l l q.drew):=J j.drew;have S5:=And.intro (nine aQ.out F.out) (show q.drew.cell? ⟨b,o+k,none⟩=some (B1 x.length t1)from q0);have ac:b<q.drew.heap.size:=K;clear K s0 j Y;go_wp2_with fail
   go_region_held3 (λc=>(c.cell? (v,0)=some (.int .i64 f.gt)/\c.cell? (v,1)=some (A1 f.ga.length c1)/\c.cell? (v,2)=some (A2 f.f6.length c2)/\c.cell? (v,3)=some (A3 f.ge.length c3)/\c.cell? (v,4)=some (A4 f.a'.length c4)/\c.cell? (v,5)=some (A5 f.gM.length c5)/\c.cell? (v,6)=some (M f.d'.length Q)/\c.cell? (v,7)=some (N f.fY.length R)/\c.cell? (v,8)=some (O f.gP.length S))/\c.cell? ⟨b,o+k,none⟩=some (B1 x.length t1))
    (first
     |with_reducible exact S5
     |with_reducible exact S6)
    (first
     |(go_at_call 147;refine(Ga q.drew f A1 A2 A3 A4 A5 M N O c1 c2 c3 c4 c5 Q R S B1 t1 x HQ.out ab hn).mono ?_;rintro e w6 ⟨be,rfl,Z,G⟩;have kU:Hid (Below a a w6):=J (F.out.trans (G.mono F.out.size));have iM:Hid (Below l l w6):=J (yR.out.trans (G.mono yR.out.size));have S6:=And.intro (nine aQ.out kU.out) (show w6.cell? ⟨b,o+k,none⟩=some (B1 x.length t1)from((aj G).1 _ _ ac).trans q0))
     |fail "no arm")
   have E6:Hid (Below v v w6):=J (nH.out.trans (kU.out.mono jc));clear S5 S6;cases be
   .go_wp2_with fail
    go_ret
    exact iz.bad _ (by decide) E6.out
   have dN:=J (X.out.snoc hx.out (Z rfl));clear Z;go_wp2_with fail
   go_roundw
   case rel=>exact⟨k+1,by omega,by simp,dN,iM.out⟩
   case measure=>simp[intOf];omega
  obtain rfl:k=L.length:=by omega
  have D:P:=HP.out.mpr λx hx=>X.out.all x hx
  clear j Y;go_wp2_with fail
  go_ret
  exact iz.O D E5.out
structure tQ (n m:Nat)(kd:Int)(r:k'):Prop where
 shape:(r.gE.length<=6/\r.ij.length<=6/\r.ahead.length<=6)/\r.ij≠[]/\(kd=1\/kd=5->r.ij.length=1)
 N:∀s∈r.gE++r.ij++r.ahead,pf n s
 outs:tW n m kd r
structure ti (n m:Nat)(l:gH):Prop where
 gd:1<=l.gd/\l.gd<=8
 i:l.gC.length<=60
 none:l.gC≠[]->l.gd<=6
 gC:∀r∈l.gC,tQ n m l.gd r
structure vy (l:gH):Prop where
 gC:ip l.gC.length
 X:∀r∈l.gC,sy r/\∀s∈r.gE++r.ij++r.ahead,ip s.length
theorem tI {w':World}{f o h i:Value}(a:b<w)(c:Below w w w')(j:w.cell? (b,g)=some d)(k:w.cell? (b,g+1)=some e)(l:w.cell? (b,g+2)=some f)(m:w.cell? (b,g+3)=some o)(n:w.cell? (b,g+4)=some h)(p:w.cell? (b,g+5)=some i):
  w'.cell? (b,g)=some d/\w'.cell? (b,g+1)=some e/\w'.cell? (b,g+2)=some f/\w'.cell? (b,g+3)=some o/\w'.cell? (b,g+4)=some h/\w'.cell? (b,g+5)=some i:=
 ⟨((aj c).1 _ _ a).trans j,((aj c).1 _ _ a).trans k,((aj c).1 _ _ a).trans l,((aj c).1 _ _ a).trans m,((aj c).1 _ _ a).trans n,((aj c).1 _ _ a).trans p⟩
theorem CG {w':World}{c:Value}(h:Bk w b t #[c,d,e])(a:Below w w w'):w'.cell? (b,0)=some c/\w'.cell? (b,1)=some d/\w'.cell? (b,2)=some e:=⟨h.at a 0 rfl,h.at a 1 rfl,h.at a 2 rfl⟩
theorem Zg (f:iu)(A1 A2 A3 A4 A5 s t u:Option Addr)(c1 c2 c3 c4 c5 w z A:Nat)(k:Nat)(hF:oS ⟨A1,c1,A2,c2,A3,c3,A4,c4,A5,c5,s,w,t,z,u,A⟩ f v)(l:gH)(hg:f.ge[k]?=some l)(hk:k<f.ge.length)(hn:ip f.ga.length)(hm:ip f.ge.length)(hB:vy l):Calls Tryz.prog 81 #[.agg #[f.gt,A1 f.ga.length c1,A2 f.f6.length c2,A3 f.ge.length c3,A4 f.a'.length c4,A5 f.gM.length c5,s f.d'.length w,t f.fY.length z,u f.gP.length A],k] v (iz v (ti f.ga.length f.ge.length l)):=by
 obtain⟨P,HP⟩:∃P:Prop,Hid (P=(ti f.ga.length f.ge.length l)):=⟨_,rfl⟩
 rw[<-HP.out];unfold ip at hn hm;have HG:=J hg;obtain⟨n,aq,aD,bV⟩:=aO v 32 #[f.gt,A1 f.ga.length c1,A2 f.f6.length c2,A3 f.ge.length c3,A4 f.a'.length c4,A5 f.gM.length c5,s f.d'.length w,t f.fY.length z,u f.gP.length A];have bH:Hid (Below v v n):=J aD;have kK:=J bV;have oq:=J (hF.below aD);obtain⟨b,o,x,B2,d2,aa,hb,hx,F,G,H,r1,N⟩:=oq.out.ge.lookup (k:=k) hk;simp only at aa;subst aa;obtain rfl:x=l:=by have:=hx.out;rw[HG.out]at this;exact(Option.some.inj this).symm
 obtain⟨m,ar,c,B⟩:=aO n 65 #[.int .i64 x.gd,.bool x.nj,B2 x.gC.length d2];have C:Hid (Below v v m):=J (bH.out.trans (c.mono bH.out.size));have K:=J B;have O:Hid (Bk m v.heap.size 32 #[f.gt,A1 f.ga.length c1,A2 f.f6.length c2,.slice (b,o) f.ge.length c3,A4 f.a'.length c4,A5 f.gM.length c5,s f.d'.length w,t f.fY.length z,u f.gP.length A]):=J (Bk.l bV c);have D:=C.out.size;have k3:=bV.cell 3;have m0:=B.cell 0;have m2:=B.cell 2;have av:=J (N.lw lj.ok c);have aw:=J (oq.out.ge.lw jn.ok c);have nH:=J hB.X;obtain⟨ay,-⟩:=hB;unfold ip at ay;clear hb r1 N hF hg hx;have aN:decide ((k:Int)<0)=false:=decide_eq_false (by omega);go_enter Tryz.func81,Tryz.ntmps81
 clear aD bV c B;by_cases h1:x.gd<1
 .go_wp2_with fail
  go_ret
  exact iz.bad _ (by decide) C.out
 by_cases h2:8<x.gd
 .go_wp2_with fail
  go_ret
  exact iz.bad _ (by decide) C.out
 by_cases h3:60<x.gC.length
 .have nJ:decide ((60:Int)<x.gC.length)=true:=decide_eq_true (by omega);go_wp2_with fail
  go_ret
  exact iz.bad _ (by decide) C.out
 have nJ:decide ((60:Int)<x.gC.length)=false:=decide_eq_false (by omega);by_cases h4:0<x.gC.length/\7<=x.gd
 .obtain⟨L,Q⟩:=h4;go_wp2_with fail
  go_ret
  exact iz.bad _ (by decide) C.out
 have aE:decide (0<x.gC.length)=false\/(decide (0<x.gC.length)=true/\decide (7<=x.gd)=false):=by
  by_cases L:0<x.gC.length
  .exact .inr ⟨decide_eq_true L,decide_eq_false λQ=>h4 ⟨L,Q⟩⟩
  exact .inl (decide_eq_false L)
 have aL:Hid (x.gC≠[]->x.gd<=6):=J λhc=>by
  have L:0<x.gC.length:=tz.2 hc;have Q:¬7<=x.gd:=λQ=>h4 ⟨L,Q⟩
  omega
 clear h4;rcases aE with b4|⟨b4,b5⟩
 all_goals
  go_wp2_with fail
  try clear aq
  try clear ar
  clear k3 F G H;go_loopw [6] (λi wr=>∃q:Nat,q<=x.gC.length/\i=.int .i64 q/\Hid (Up x.gC q (tQ f.ga.length f.ge.length x.gd))/\Below m m wr) (λi _=>x.gC.length - (intOf i).toNat)
  case atStart=>exact⟨0,by omega,rfl,J (Up.zero _ _),gD _ _⟩
  case round=>
   obtain⟨w5,rfl⟩:∃x,x=wr:=⟨_,rfl⟩
   obtain⟨q,hq,rfl,ab,p⟩:=hrel;have fQ:Hid (Below m m w5):=J p;have E5:Hid (Below v v w5):=J (C.out.trans (p.mono D));clear m0 m2;have m2:=K.out.at p 2 rfl;by_cases aM:q<x.gC.length
   .obtain⟨d,g,y,R,S,T,U,V,W,X,Y,Z,t4,rfl,c,hy,F,G,H,q3,q4,q5,-,s0,s1,N,s3,s4⟩:=av.out.X aM;have M:=nH.out y (kj hy.out);replace s0:=J s0;replace s1:=J s1;replace N:=J N;replace s3:=J s3;replace s4:=J s4;clear p;have yR:Hid (Below m m w5.drew):=J fQ.out.drew;have ac:=And.intro (nine O.out yR.out) (And.intro (CG K.out yR.out) (tI c yR.out F G H q3 q4 q5));go_wp2_with fail
    go_region_held3 (λa=>(a.cell? (v,0)=some (.int .i64 f.gt)/\a.cell? (v,1)=some (A1 f.ga.length c1)/\a.cell? (v,2)=some (A2 f.f6.length c2)/\a.cell? (v,3)=some (.slice (b,o) f.ge.length c3)/\a.cell? (v,4)=some (A4 f.a'.length c4)/\a.cell? (v,5)=some (A5 f.gM.length c5)/\a.cell? (v,6)=some (s f.d'.length w)/\a.cell? (v,7)=some (t f.fY.length z)/\a.cell? (v,8)=some (u f.gP.length A))/\(a.cell? (n,0)=some (.int .i64 x.gd)/\a.cell? (n,1)=some (.bool x.nj)/\a.cell? (n,2)=some (.slice (d,g) x.gC.length d2))/\(a.cell? (d,g+q*6)=some (R y.gE.length S)/\a.cell? (d,g+q*6+1)=some (T y.ij.length U)/\a.cell? (d,g+q*6+2)=some (V y.ahead.length W)/\a.cell? (d,g+q*6+3)=some (X y.out.length Y)/\a.cell? (d,g+q*6+4)=some (Z y.gw.length t4)/\a.cell? (d,g+q*6+5)=some (.int .i64 y.x)))
     (first
      |with_reducible exact ac
      |with_reducible exact S6)
     (first
      |(go_at_call 125;refine(FG w5.drew x.gd y R T V X Z S U W Y t4 M.1).mono ?_;rintro e w6 ⟨r6,rfl,yB,ad⟩;have iM:Hid (Below m m w6):=J (yR.out.trans (ad.mono yR.out.size));have S6:=And.intro (nine O.out iM.out) (And.intro (CG K.out iM.out) (tI c iM.out F G H q3 q4 q5));clear ad)
      |fail "no arm")
    have E6:Hid (Below v v w6):=J (C.out.trans (iM.out.mono D));clear ac S6;by_cases j:r6=0
    .have K6:=J (yB j);clear yB;subst j;have I:Hid (Below m m w6.drew):=J iM.out.drew;have ak:=And.intro (nine O.out I.out) (And.intro (CG K.out I.out) (tI c I.out F G H q3 q4 q5));go_wp2_with fail
     go_region_held3 (λa=>(a.cell? (v,0)=some (.int .i64 f.gt)/\a.cell? (v,1)=some (A1 f.ga.length c1)/\a.cell? (v,2)=some (A2 f.f6.length c2)/\a.cell? (v,3)=some (.slice (b,o) f.ge.length c3)/\a.cell? (v,4)=some (A4 f.a'.length c4)/\a.cell? (v,5)=some (A5 f.gM.length c5)/\a.cell? (v,6)=some (s f.d'.length w)/\a.cell? (v,7)=some (t f.fY.length z)/\a.cell? (v,8)=some (u f.gP.length A))/\(a.cell? (n,0)=some (.int .i64 x.gd)/\a.cell? (n,1)=some (.bool x.nj)/\a.cell? (n,2)=some (.slice (d,g) x.gC.length d2))/\(a.cell? (d,g+q*6)=some (R y.gE.length S)/\a.cell? (d,g+q*6+1)=some (T y.ij.length U)/\a.cell? (d,g+q*6+2)=some (V y.ahead.length W)/\a.cell? (d,g+q*6+3)=some (X y.out.length Y)/\a.cell? (d,g+q*6+4)=some (Z y.gw.length t4)/\a.cell? (d,g+q*6+5)=some (.int .i64 y.x)))
      (first
       |with_reducible exact ak
       |with_reducible exact S7)
      (first
       |(go_at_call 126;refine(Kb w6.drew f A1 A2 (b,o) A4 A5 s t u c1 c2 c3 c4 c5 w z A y R T V X Z S U W Y t4 (s0.out.lw gT.ok I.out) (s1.out.lw gT.ok I.out) (N.out.lw gT.ok I.out) K6.out.1 M.2 hn).mono ?_;rintro e w7 ⟨r7,rfl,KG,al⟩;have oV:Hid (Below m m w7):=J (I.out.trans (al.mono I.out.size));have S7:=And.intro (nine O.out oV.out) (And.intro (CG K.out oV.out) (tI c oV.out F G H q3 q4 q5));clear al)
       |fail "no arm")
     have E7:Hid (Below v v w7):=J (C.out.trans (oV.out.mono D));clear ak S7;by_cases j:r7=0
     .have K7:=J (KG j);clear KG;subst j;have E:Hid (Below m m w7.drew):=J oV.out.drew;have ao:=And.intro (nine O.out E.out) (And.intro (CG K.out E.out) (tI c E.out F G H q3 q4 q5));go_wp2_with fail
      go_region_held3 (λa=>(a.cell? (v,0)=some (.int .i64 f.gt)/\a.cell? (v,1)=some (A1 f.ga.length c1)/\a.cell? (v,2)=some (A2 f.f6.length c2)/\a.cell? (v,3)=some (.slice (b,o) f.ge.length c3)/\a.cell? (v,4)=some (A4 f.a'.length c4)/\a.cell? (v,5)=some (A5 f.gM.length c5)/\a.cell? (v,6)=some (s f.d'.length w)/\a.cell? (v,7)=some (t f.fY.length z)/\a.cell? (v,8)=some (u f.gP.length A))/\(a.cell? (n,0)=some (.int .i64 x.gd)/\a.cell? (n,1)=some (.bool x.nj)/\a.cell? (n,2)=some (.slice (d,g) x.gC.length d2))/\(a.cell? (d,g+q*6)=some (R y.gE.length S)/\a.cell? (d,g+q*6+1)=some (T y.ij.length U)/\a.cell? (d,g+q*6+2)=some (V y.ahead.length W)/\a.cell? (d,g+q*6+3)=some (X y.out.length Y)/\a.cell? (d,g+q*6+4)=some (Z y.gw.length t4)/\a.cell? (d,g+q*6+5)=some (.int .i64 y.x)))
       (first
        |with_reducible exact ao
        |with_reducible exact S8)
       (first
        |(go_at_call 127;refine(Ka w7.drew f A1 A2 (b,o) A4 A5 s t u c1 c2 c3 c4 c5 w z A x.gd y R T V X Z S U W Y t4 (s1.out.lw gT.ok E.out) (s3.out.lw gS.ok E.out) (s4.out.lw mo.ok E.out) (aw.out.lw jn.ok E.out) (λh=>by have:=K6.out.2.2 h;omega) M.1 hn hm).mono ?_;rintro e w8 ⟨r8,rfl,Eh,ap⟩;have lL:Hid (Below m m w8):=J (E.out.trans (ap.mono E.out.size));have S8:=And.intro (nine O.out lL.out) (And.intro (CG K.out lL.out) (tI c lL.out F G H q3 q4 q5));clear ap)
        |fail "no arm")
      have E8:Hid (Below v v w8):=J (C.out.trans (lL.out.mono D));clear ao S8;by_cases j:r8=0
      .have K8:=J (Eh j);clear Eh;subst j;have dN:=J (ab.out.snoc hy.out ⟨K6.out,K7.out,K8.out⟩);go_wp2_with fail
       go_roundw
       case rel=>exact⟨q+1,by omega,by simp,dN,lL.out⟩
       case measure=>simp[intOf];omega
      clear Eh;have VW:(r8 !=0)=true:=iP j;go_wp2_with fail
      go_ret
      exact iz.bad r8 j E8.out
     clear KG;have Rh:(r7==0)=false:=fM j;have VW:(r7 !=0)=true:=iP j;go_wp2_with fail
     go_ret
     exact iz.bad r7 j E7.out
    clear yB;have Rh:(r6==0)=false:=fM j;have VW:(r6 !=0)=true:=iP j;go_wp2_with fail
    go_ret
    exact iz.bad r6 j E6.out
   obtain rfl:q=x.gC.length:=by omega
   have hg:P:=HP.out.mpr ⟨⟨by omega,by omega⟩,by omega,aL.out,λr j=>ab.out.all r j⟩;clear p;go_wp2_with fail
   go_ret
   exact iz.O hg E5.out
structure th (m:Nat)(x:mS):Prop where
 gn:hZ x.gn=true
 ge:∀n∈x.ge,In m n
 i:x.ge.length<=m
def pi (l:List Int)(k n:Nat):Prop:=∀j x,j<k->l[j]?=some x->In n x/\(j:Int)<=x
theorem pi.zero (l:List Int)(n:Nat):pi l 0 n:=λj x a=>by omega
theorem pi.snoc {l:List Int}{k n:Nat}(h:pi l k n)(b:l[k]?=some y)(c:In n y)(d:(k:Int)<=y):pi l (k+1) n:=λj x f a=>by
 by_cases e:j=k
 .subst e;rw[b]at a;cases a;exact⟨c,d⟩
 exact h j x (by omega) a
theorem pi.next {k n:Nat}{z:Int}(h:pi l (k+1) n)(a:l[k]?=some y)(b:l[k+1]?=some z)(c:In n z)(d:¬z<=y):pi l (k+1+1) n:=h.snoc b c (by have:=(h k y (by omega) a).2;omega)
theorem pi.all {n:Nat}(h:pi l l.length n):∀x∈l,In n x:=λx b=>by
 obtain⟨j,a,rfl⟩:=List.getElem_of_mem b;exact(h j _ a (jO a)).1
theorem pi.i {n:Nat}(h:pi l l.length n):l.length<=n:=by
 by_cases e:l.length=0
 .omega
 obtain⟨⟨a,b⟩,c⟩:=h (l.length - 1) _ (by omega) (jO (by omega));omega
structure vA (x:mS):Prop where
 gn:ip x.gn.length
 ge:ip x.ge.length
theorem J7 (f:iu)(A1 A2 A3 A4 A5 M N O:Option Addr)(c1 c2 c3 c4 c5 Q R S:Nat)(k:Nat)(hF:oS ⟨A1,c1,A2,c2,A3,c3,A4,c4,A5,c5,M,Q,N,R,O,S⟩ f v)(l:mS)(T:f.a'[k]?=some l)(hk:k<f.a'.length)(X:ip f.a'.length)(hm:ip f.ge.length)(hB:vA l):Calls Tryz.prog 82 #[.agg #[f.gt,A1 f.ga.length c1,A2 f.f6.length c2,A3 f.ge.length c3,A4 f.a'.length c4,A5 f.gM.length c5,M f.d'.length Q,N f.fY.length R,O f.gP.length S],k] v (iz v (th f.ge.length l)):=by
 obtain⟨P,HP⟩:∃P:Prop,Hid (P=(th f.ge.length l)):=⟨_,rfl⟩
 rw[<-HP.out];unfold ip at X hm;have HG:=J T;obtain⟨Wf,Y,D,U⟩:=aO v 32 #[f.gt,A1 f.ga.length c1,A2 f.f6.length c2,A3 f.ge.length c3,A4 f.a'.length c4,A5 f.gM.length c5,M f.d'.length Q,N f.fY.length R,O f.gP.length S];have bH:Hid (Below v v Wf):=J D;have kK:=J U;have oq:=J (hF.below D);obtain⟨b,o,x,B2,d2,F,hb,hx,Z,q1,s2⟩:=oq.k.t' (k:=k) hk;simp only at F;subst F;obtain rfl:x=l:=by have:=hx.out;rw[HG.out]at this;exact(Option.some.inj this).symm
 obtain⟨h,aa,m,r⟩:=aO Wf 73 #[.string ⟨x.gn.toArray⟩,B2 x.ge.length d2];have w:Hid (Below v v h):=J (bH.trans (m.mono bH.size));have EN:=J r;have aQ:Hid (Bk h v.heap.size 32 #[f.gt,A1 f.ga.length c1,A2 f.f6.length c2,A3 f.ge.length c3,.slice (b,o) f.a'.length c4,A5 f.gM.length c5,M f.d'.length Q,N f.fY.length R,O f.gP.length S]):=J (Bk.l U m);have G:=w.size;have k4:=U.cell 4;have m0:=r.cell 0;have H:=r.cell 1;have QT:=J (oq.k.lw kn.ok m);have I:=J (s2.lw gS.ok m);obtain⟨ab,ac⟩:=hB;unfold ip at ab ac;clear hb s2 hF T hx;have aq:decide ((k:Int)<0)=false:=decide_eq_false (by omega);have ar:decide ((f.a'.length:Int)<=(k:Int))=false:=decide_eq_false (by omega);go_enter Tryz.func82,Tryz.ntmps82
 clear D U m r;by_cases A:x.gn.length<1
 .have n:decide ((x.gn.length:Int)<1)=true:=decide_eq_true (by omega);go_wp2_with fail
  go_ret
  exact iz.bad _ (by decide) w
 have n:decide ((x.gn.length:Int)<1)=false:=decide_eq_false (by omega);by_cases B:8<x.gn.length
 .have av:decide ((8:Int)<x.gn.length)=true:=decide_eq_true (by omega);go_wp2_with fail
  go_ret
  exact iz.bad _ (by decide) w
 have av:decide ((8:Int)<x.gn.length)=false:=decide_eq_false (by omega);go_wp2_with fail
 try clear Y
 try clear aa
 clear Z q1;go_loopw [6] (λi wr=>∃q:Nat,q<=x.gn.length/\i=.int .i64 q/\Hid (∀j c,j<q->x.gn[j]?=some c->nameAt j c=true)/\h=wr) (λi _=>x.gn.length - (intOf i).toNat)
 case atStart=>exact⟨0,by omega,rfl,J (by omega),rfl⟩
 case round=>
  obtain⟨q,hq,rfl,p,rfl⟩:=hrel;by_cases s:q<x.gn.length
  .obtain⟨c,hc⟩:∃c,x.gn[q]?=some c:=⟨_,jO s⟩
   have hb:=byte_at x.gn q c hc s;have C:Hid (nameAt q c=true->∀j d,j<q+1->x.gn[j]?=some d->nameAt j d=true):=by
    intro X j d hj hd;by_cases K:j=q
    .subst K;rw[hc]at hd;cases hd;exact X
    exact p j d (by omega) hd
   clear hc;by_cases A:(c.toNat:Int)<97
   .by_cases E:(c.toNat:Int)<65
    .go_wp2_with fail
     go_ret
     exact iz.bad _ (by decide) w
    by_cases h4:90<(c.toNat:Int)
    .go_wp2_with fail
     go_ret
     exact iz.bad _ (by decide) w
    have Yl:=J (C ((rf q c).2 (by omega)));go_wp2_with fail
    go_roundw
    case rel=>exact⟨q+1,by omega,by simp,Yl,by trivial⟩
    case measure=>simp[intOf];omega
   by_cases B:122<(c.toNat:Int)
   .have V:decide ((c.toNat:Int)<65)=false:=decide_eq_false (by omega);have zi:decide (90<(c.toNat:Int))=true:=decide_eq_true (by omega);go_wp2_with fail
    go_ret
    exact iz.bad _ (by decide) w
   have Yl:=J (C ((rf q c).2 (by omega)));go_wp2_with fail
   go_roundw
   case rel=>exact⟨q+1,by omega,by simp,Yl,by trivial⟩
   case measure=>simp[intOf];omega
  obtain rfl:q=x.gn.length:=by omega
  have HN:Hid (hZ x.gn=true):=J (by rw[FZ x.gn p.out];exact decide_eq_true ⟨by omega,by omega⟩);clear p;go_wp2_with fail
  go_loopw [8] (λi wr=>∃j:Nat,j<=k/\i=.int .i64 j/\Below h h wr) (λi _=>k - (intOf i).toNat)
  case atStart=>exact⟨0,by omega,rfl,gD _ _⟩
  case round=>
   obtain⟨w5,rfl⟩:∃x,x=wr:=⟨_,rfl⟩
   obtain⟨j,hj,rfl,a⟩:=hrel;have fQ:Hid (Below h h w5):=J a;have E5:Hid (Below v v w5):=J (w.trans (a.mono G));clear m0 H k4;have m0:=EN.at a 0 rfl;have H:=EN.at a 1 rfl;have k4:=aQ.at a 4 rfl;by_cases K:j<k
   .obtain⟨b2,o2,z,Z1,t1,e2,ad,hz,v0,-,-⟩:=(QT.lw kn.ok a).t' (k:=j) (by omega);obtain⟨rfl,rfl⟩:b=b2/\o=o2:=by simpa using e2
    clear ad e2 a H;by_cases t:z.gn=x.gn
    .have ak:(z.gn==x.gn)=true:=by rw[t];simp
     clear t;go_wp2_with fail
     go_quiet (fail)
     go_wp2_with fail
     go_ret
     exact iz.bad _ (by decide) (below_drewN E5 _)
    have ak:(z.gn==x.gn)=false:=by simpa using t
    clear t hz;go_wp2_with fail
    go_quiet (fail)
    go_wp2_with fail
    go_roundw
    case rel=>exact⟨j+1,by omega,by simp,below_drewN fQ _⟩
    case measure=>simp[intOf];omega
   obtain rfl:j=k:=by omega
   clear a m0 k4;go_wp2_with fail
   go_loopw [9] (λi wr=>∃q:Nat,q<=x.ge.length/\i=.int .i64 q/\Hid (pi x.ge q f.ge.length)/\Below h h wr) (λi _=>x.ge.length - (intOf i).toNat)
   case atStart=>exact⟨0,by omega,rfl,J (pi.zero _ _),fQ⟩
   case round=>
    obtain⟨w6,rfl⟩:∃x,x=wr:=⟨_,rfl⟩
    obtain⟨q,hq,rfl,u,g⟩:=hrel;have iM:Hid (Below h h w6):=J g;have W:Hid (Below v v w6):=J (w.trans (g.mono G));clear H;have H:=EN.at g 1 rfl;have k3:=aQ.at g 3 rfl;by_cases s:q<x.ge.length
    .obtain⟨b3,o3,e,rfl,al,L,Z,r0⟩:=(I.lw gS.ok g).int s;clear al r0 g;by_cases A:e<0
     .go_wp2_with fail
      go_quiet (fail)
      go_wp2_with fail
      go_ret
      exact iz.bad _ (by decide) (below_drewN W _)
     have n:decide (e<0)=false:=decide_eq_false A;by_cases B:(f.ge.length:Int)<=e
     .go_wp2_with fail
      go_quiet (fail)
      go_wp2_with fail
      go_ret
      exact iz.bad _ (by decide) (below_drewN W _)
     have av:decide ((f.ge.length:Int)<=e)=false:=decide_eq_false B;by_cases ao:q=0
     .subst ao;have dN:Hid (pi x.ge (0+1) f.ge.length):=J (u.snoc L (In.of A B) (by omega));have e0:((0:Nat):Int)=0:=rfl;simp only[Nat.add_zero]at Z;rw[e0];go_wp2_with fail
      go_quiet (fail)
      go_wp2_with fail
      go_roundw
      case rel=>exact⟨0+1,by omega,by simp,dN,below_drewN iM _⟩
      case measure=>simp[intOf];omega
     obtain⟨j,rfl⟩:∃j,q=j+1:=⟨q - 1,by omega⟩
     obtain⟨b',o',y,e',ap,hy,q1,r1⟩:=(I.lw gS.ok iM).int (k:=j) (by omega);obtain⟨rfl,rfl⟩:b3=b'/\o3=o':=by simpa using e'
     clear ap r1 e';by_cases E:e<=y
     .go_wp2_with fail
      go_quiet (fail)
      go_wp2_with fail
      go_ret
      exact iz.bad _ (by decide) (below_drewN W _)
     have V:decide (e<=y)=false:=decide_eq_false E;have dN:=J (u.next hy L (In.of A B) E);go_wp2_with fail
     go_quiet (fail)
     go_wp2_with fail
     go_roundw
     case rel=>exact⟨j+1+1,by omega,by simp,dN,below_drewN iM _⟩
     case measure=>simp[intOf];omega
    obtain rfl:q=x.ge.length:=by omega
    have T:P:=HP.mpr ⟨HN,u.all,u.i⟩;clear g;go_wp2_with fail
    go_ret
    exact iz.O T W
theorem Zz {f h:Option Addr}{n:Nat}{r:k'}(o:Sl gT 1 w (Lw w) A r.gE)(p:Sl gT 1 w (Lw w) f r.ij)(u:Sl gT 1 w (Lw w) h r.ahead)(v:sy r/\∀s∈r.gE++r.ij++r.ahead,ip s.length)(i:Bk W g t #[A r.gE.length b,f r.ij.length m,h r.ahead.length n])(j:Below w w W)(q:Nat)(d:q<3):∃a C e,Sl gT 1 W (Lw W) C a/\W.cell? (g,q)=some (.slice C a.length e)/\a.length<=10000000000000/\∀s∈a,s.length<=10000000000000:=by
 obtain⟨⟨x,y,z,-,-⟩,k⟩:=v;rcases q with _|_|_|q
 .exact⟨r.gE,A,b,o.lw gT.ok j,i.cell 0,x,λs c=>k s (by simp[c])⟩
 .exact⟨r.ij,f,m,p.lw gT.ok j,i.cell 1,y,λs c=>k s (by simp[c])⟩
 .exact⟨r.ahead,h,n,u.lw gT.ok j,i.cell 2,z,λs c=>k s (by simp[c])⟩
 omega
theorem Zl (A:Option Addr)(c:Nat)(l:List k')(h:Sl lj 6 v (Lw v) A l)(hn:ip l.length)(T:∀r∈l,sy r/\∀s∈r.gE++r.ij++r.ahead,ip s.length):Calls Tryz.prog 13 #[A l.length c] v λe w'=>∃z:Int,e=.returned (.int .i64 z)/\0<=z/\z<=30000000000000/\Below v v w':=by
 have H:=J h;have HB:=J T;unfold ip at hn;clear h T;go_enter Tryz.func13,Tryz.ntmps13
 go_wp2_with fail
 go_loopw [3,4] (λn i wr=>∃(k:Nat) (z:Int),k<=l.length/\n=.int .i64 z/\i=.int .i64 k/\0<=z/\z<=30000000000000/\Below v v wr) (λ_ i _=>l.length - (intOf i).toNat)
 case atStart=>exact⟨0,l.length,by omega,rfl,rfl,by omega,by omega,gD _ _⟩
 case round=>
  obtain⟨k,z,hk,rfl,rfl,f,g,U⟩:=hrel;have m:=J U;clear U;by_cases M:k<l.length
  .by_cases V:z<=2000
   .obtain⟨b,o,r,W,X,Y,Z,C2,e2,C3,e3,C4,e4,rfl,N,hx,q0,q1,q2,q3,q4,q5,-,s0,s1,s2,s3,s4⟩:=(H.out.lw lj.ok m.out).X M;have hR:=HB.out r (kj hx.out);have HR:=J hR;obtain⟨⟨-,-,-,y3,y4⟩,-⟩:=hR;unfold ip at y3 y4;obtain⟨Wr,oC,p,d⟩:=aO wr 69 #[W r.gE.length X,Y r.ij.length Z,C2 r.ahead.length e2,C3 r.out.length e3,C4 r.gw.length e4,r.x];have m0:=d.cell 0;have m1:=d.cell 1;have m2:=d.cell 2;have m3:=d.cell 3;have m4:=d.cell 4;have S0:=J s0;have S1:=J s1;have S2:=J s2;have nH:=J p;clear N hx s0 s1 s2 s3 s4 p d;go_wp2_with fail
    try clear oC
    clear m0 m1 m2 m3 m4 q0 q1 q2 q3 q4 q5;obtain⟨L,t,y,B⟩:=aO Wr 66 #[W r.gE.length X,Y r.ij.length Z,C2 r.ahead.length e2];rw[t];have D:Hid (Below wr.heap.size wr L):=J (nH.out.trans (y.mono nH.out.size));have H3:=J (λq hq=>Zz S0.out S1.out S2.out HR.out B D.out q hq);have HE:Hid (Below v v L):=J (m.out.trans (D.out.mono m.out.size));clear t y B;go_loopw [3,7] (λn i O=>∃(q:Nat) (u:Int),q<=3/\n=.int .i64 u/\i=.int .i64 q/\0<=u/\u<=30000000000000/\L=O) (λ_ i _=>3 - (intOf i).toNat)
    case atStart=>exact⟨0,_,by omega,rfl,rfl,by omega,by omega,rfl⟩
    case round=>
     obtain⟨q,u,hq,rfl,rfl,E,F,rfl⟩:=hrel;by_cases P:q<3
     .have bq:decide ((q:Int)<3)=true:=decide_eq_true (by omega);obtain⟨a,C,e,Pj,aa,ab,G⟩:=H3.out q P;have Q:=J Pj;have R:=J G;clear Pj G;go_wp2_with fail
      go_loopw [3,8] (λn i O=>∃(j:Nat) (w:Int),j<=a.length/\n=.int .i64 w/\i=.int .i64 j/\0<=w/\w<=30000000000000/\L=O) (λ_ i _=>a.length - (intOf i).toNat)
      case atStart=>exact⟨0,u,by omega,rfl,rfl,E,F,rfl⟩
      case round=>
       obtain⟨j,w,hj,rfl,rfl,I,ad,rfl⟩:=hrel;by_cases S:j<a.length
       .by_cases hv:w<=2000
        .obtain⟨b9,o9,x9,B9,t9,rfl,bf,K,p0,-⟩:=Q.out.row S;have bF:=R.out x9 (kj K.out);clear bf K;go_wp2_with fail
         go_roundw
         case rel=>exact⟨j+1,_,by omega,rfl,by simp,by omega,by omega,by trivial⟩
         case measure=>simp[intOf];omega
        go_wp2_with fail
        go_roundw
        case rel=>exact⟨q+1,w,by omega,rfl,by simp,I,ad,by trivial⟩
        case measure=>simp[intOf];omega
       go_wp2_with fail
       go_roundw
       case rel=>exact⟨q+1,w,by omega,rfl,by simp,I,ad,by trivial⟩
       case measure=>simp[intOf];omega
     have bq:decide ((q:Int)<3)=false:=decide_eq_false (by omega);go_wp2_with fail
     go_roundw
     case rel=>exact⟨k+1,u,by omega,rfl,by simp,E,F,HE.out⟩
     case measure=>simp[intOf];omega
   go_wp2_with fail
   go_ret
   exact⟨z,rfl,f,g,m.out⟩
  go_wp2_with fail
  go_ret
  exact⟨z,rfl,f,g,m.out⟩
theorem lR.drew {n:Nat}{a:List P3}(h:lR w A n a):lR w.drew A n a:=⟨h.rd.below (gD _ w).drew,h.len,h.i⟩
theorem mB.drew (h:mB w):mB w.drew:=h.below (gD _ w).drew
def GW (f:B->Option Value)(w:World)(h p e i:Nat)(g:Gl)(s:PS)(K:Nat)(A:Option Addr)(n c:Nat)(t:B)(l:List B):Prop:=
 (f t=none/\stmt g s (t::l)=.error 22)\/
 (∃F,f t=some (pV p F)/\(∀(d:Array Value) (w:World),(callFunc F d).run Tryz.prog w=.ok (.enter F d) w)/\Calls Tryz.prog F #[.pointer (p,0),A n c] w (iS w h p e i g (K+n) (stmt g s (t::l))))\/
 (∃F a b,f t=some (cV F a b)/\(∀(d:Array Value) (w:World),(callFunc F d).run Tryz.prog w=.ok (.enter F d) w)/\Calls Tryz.prog F #[A n c,.pointer (some ⟨a,0,none⟩),.pointer (some ⟨b,0,none⟩)] w (iS w h p e i g (K+n) (stmt g s (t::l))))
theorem Er {f:B->Option Value}{V W X Y Z rW su rY sF:Nat}(Bd p h cm:Nat)(gl:Gl)(s:PS)(rv:Rows)(K:Nat)(A:Option Addr)(n c:Nat)(ws:List P3)(t:B)(l:List B)(U:tR v p b f g m a V W X Y Z rW su rY sF)(T:ie v Bd p h cm gl s rv K)(x:lR v A n ws)(y:af ws=t::l)(aa:K<=1000000000)(O:n<=c)(R:mB v)(EE:nT<=Bd):
  GW f v Bd p h cm gl s K A n c t l:=by
 have o:K<=10000000000:=by omega
 by_cases z:t=nN
 .subst z;refine .inr (.inl ⟨43,U.asb,λ_ _=>enters_of Tryz.func43 (by kernel_rfl) rfl _ _,?_⟩);rw[Xp];exact Vs v Bd p h cm gl s rv K A n c ws _ l T x y
 by_cases C:t=wZ
 .subst C;refine .inr (.inl ⟨44,U.Wz,λ_ _=>enters_of Tryz.func44 (by kernel_rfl) rfl _ _,?_⟩);rw[Xj];exact Vh v Bd p h cm gl s rv K A n c ws _ l T x y o
 by_cases i:t=kY
 .subst i;refine .inr (.inl ⟨45,U.X2,λ_ _=>enters_of Tryz.func45 (by kernel_rfl) rfl _ _,?_⟩);rw[PM];exact Qo v Bd p h cm gl s rv K A n c ws _ l T x y o O
 by_cases ad:t=oO
 .subst ad;refine .inr (.inl ⟨46,U.ash,λ_ _=>enters_of Tryz.func46 (by kernel_rfl) rfl _ _,?_⟩);rw[zE];exact Za v Bd p h cm gl s rv K A n c ws _ l T x y o O
 by_cases D:t=sH
 .subst D;refine .inr (.inl ⟨47,U.WE,λ_ _=>enters_of Tryz.func47 (by kernel_rfl) rfl _ _,?_⟩);rw[Xl];exact Vk v Bd p h cm gl s rv K A n c ws _ l T x y o O R EE
 by_cases q:t=CB
 .subst q;refine .inr (.inl ⟨48,U.ZS,λ_ _=>enters_of Tryz.func48 (by kernel_rfl) rfl _ _,?_⟩);rw[Ml];exact Uj v Bd p h cm gl s rv K A n c ws _ l T x y O
 by_cases r:t=fB
 .subst r;refine .inr (.inl ⟨49,U.Z0,λ_ _=>enters_of Tryz.func49 (by kernel_rfl) rfl _ _,?_⟩);rw[UI];exact Ul v Bd p h cm gl s rv K A n c ws _ l T x y o
 by_cases S:t=ik
 .subst S;refine .inr (.inr ⟨97,g,m,U.arf,λ_ _=>enters_of Tryz.func97 (by kernel_rfl) rfl _ _,?_⟩);rw[MM];exact rQ 51 (λ_ _=>enters_of Tryz.func51 (by kernel_rfl) rfl _ _) v Bd p h cm gl s rv K (K+n) A n c g m (kG s l) T (U.vu.par.cell 0) (U.vu.fn.cell 0) (λe=>by unfold kG;rw[if_pos e])
   (λM w L G P Q N=>Oh v.drew Bd p h cm gl s rv K A n c ws _ l (T.drewN 1) x.drew y aa O L N rfl) o
 by_cases E:t=sJ
 .subst E;refine .inr (.inr ⟨97,a,V,U.Xs,λ_ _=>enters_of Tryz.func97 (by kernel_rfl) rfl _ _,?_⟩);rw[Xn];exact rQ 52 (λ_ _=>enters_of Tryz.func52 (by kernel_rfl) rfl _ _) v Bd p h cm gl s rv K (K+n) A n c a V (wY gl s l) T (U.vq.par.cell 0) (U.vq.fn.cell 0) (λe=>by unfold wY;rw[if_pos e])
   (λM w L G P Q N=>Vq v.drew Bd p h cm gl s rv K A n c ws _ l (T.drewN 1) x.drew y o L N rfl) o
 by_cases j:t=lY
 .subst j;refine .inr (.inr ⟨97,W,X,U.X0,λ_ _=>enters_of Tryz.func97 (by kernel_rfl) rfl _ _,?_⟩);rw[PK];exact rQ 53 (λ_ _=>enters_of Tryz.func53 (by kernel_rfl) rfl _ _) v Bd p h cm gl s rv K (K+n) A n c W X (lX s l) T (U.vx.par.cell 0) (U.vx.fn.cell 0) (λe=>by unfold lX;rw[if_pos e])
   (λM w L G P Q N=>Qm v.drew Bd p h cm gl s rv K A n c ws _ l (T.drewN 1) x.drew y o R.drew L N rfl) o
 by_cases u:t=pO
 .subst u;refine .inr (.inr ⟨97,Y,Z,U.ZV,λ_ _=>enters_of Tryz.func97 (by kernel_rfl) rfl _ _,?_⟩);rw[UH];exact rQ 54 (λ_ _=>enters_of Tryz.func54 (by kernel_rfl) rfl _ _) v Bd p h cm gl s rv K (K+n) A n c Y Z (rV s l) T (U.vr.par.cell 0) (U.vr.fn.cell 0) (λe=>by unfold rV;rw[if_pos e])
   (λM w L G P Q N=>Uk v.drew Bd p h cm gl s rv K A n c ws _ l (T.drewN 1) x.drew y o O L N rfl) o
 by_cases F:t=qG
 .subst F;refine .inr (.inr ⟨97,rW,su,U.WK,λ_ _=>enters_of Tryz.func97 (by kernel_rfl) rfl _ _,?_⟩);rw[Xm];exact rQ 55 (λ_ _=>enters_of Tryz.func55 (by kernel_rfl) rfl _ _) v Bd p h cm gl s rv K (K+n) A n c rW su (wX s l) T (U.vt.par.cell 0) (U.vt.fn.cell 0) (λe=>by unfold wX;rw[if_pos e])
   (λM w L G P Q N=>Vl v.drew Bd p h cm gl s rv K A n c ws _ l (T.drewN 1) x.drew y o O R.drew EE L N rfl) o
 by_cases H:t=xe
 .subst H;refine .inr (.inl ⟨56,U.WD,λ_ _=>enters_of Tryz.func56 (by kernel_rfl) rfl _ _,?_⟩);rw[Xk];exact Vj v Bd p h cm gl s rv K A n c ws _ l T x y o
 by_cases k:t=iW
 .subst k;refine .inr (.inl ⟨57,U.X1,λ_ _=>enters_of Tryz.func57 (by kernel_rfl) rfl _ _,?_⟩);rw[PL];exact Qn v Bd p h cm gl s rv K A n c ws _ l T x y o R
 by_cases I:t=ku
 .subst I;refine .inr (.inr ⟨101,rY,sF,U.asa,λ_ _=>enters_of Tryz.func101 (by kernel_rfl) rfl _ _,?_⟩);rw[Xo];exact TQ 59 (λ_ _=>enters_of Tryz.func59 (by kernel_rfl) rfl _ _) v Bd p h cm gl s rv K (K+n) A n c rY sF (gK gl s l) T (U.vK.par.cell 0) (U.vK.fn.cell 0) (λe=>by unfold gK;rw[e];rfl)
   (λM w L G P Q N=>Vr v.drew Bd p h cm gl s rv K A n c ws _ l (T.drewN 1) x.drew y o O L N rfl) o
 by_cases d:t=kH
 .subst d;refine .inr (.inl ⟨60,U.arh,λ_ _=>enters_of Tryz.func60 (by kernel_rfl) rfl _ _,?_⟩);rw[MN];exact Oi v Bd p h cm gl s rv K A n c ws _ l T x y o O
 refine .inl ⟨U.none t z C i ad D q r S E j u F H k I d,?_⟩;simp only[stmt,z,C,i,ad,D,q,r,S,E,j,u,F,H,k,I,d,if_false]
def Xz (p:List Ins):Prop:=p.length<=200/\nI p
abbrev wR:TypeId:=83
def Ju (w:World)(P:Prop)(e:Ending)(w':World):Prop:=∃r a:Int,e=.returned (.agg #[r,a])/\(r=0->P)/\Below w w w'
theorem Of:(Tryz.prog.info? wR).map (·.size)=some 2:=by kernel_rfl
theorem Vt {j:Func}(h:j.results=#[.cell 2 wR]){c:Array Value}(a:Bk W g wR #[d,e])(b:c.getD 2 undef=.pointer (g,0)):(results j c).run Tryz.prog W=.ok (.agg #[d,e]) W:=by
 have f:(results j c).run Tryz.prog W=((asAddr (c.getD 2 undef)).run Tryz.prog W).andThen λd i=>((loadVar wR d).run Tryz.prog i):=by simp only[results,h];simp[Sem.run_bind,Result.andThen]
 rw[f,b];have:=run_loadVar_row (P:=Tryz.prog) W g wR wR #[d,e] (0,0) _ a Tryz.underlying83 rfl (by rw[Of];rfl);simp[asAddr,Result.andThen,this]
theorem bI {m:Func}(y:m.results=#[.cell 2 wR]){c:World}{P:Prop}(b:Bk c g wR #[d,e])(f:Below c c W)(x:w.heap.size<=g)(i:Below w w W)(r a:Int)(j:h.getD 2 undef=.pointer (g,0))(k:r=0->P):
  bodyPost Tryz.prog m (Ju w P) Exit.ret {tmps:=h,defers:=[]} ((W.setCell (g,0) (.int .i64 r)).setCell (g,1) (.int .i64 a)):=by
 have l:Bk ((W.setCell (g,0) (.int .i64 r)).setCell (g,1) (.int .i64 a)) g wR #[r,a]:=by have:=((b.l f).set 0 (.int .i64 r)).set 1 (.int .i64 a);simpa using this
 exact bodyPost_ret (Vt y l j) rfl ⟨r,a,rfl,k,(i.setCell x _).setCell x _⟩
theorem FF (f:iu)(A1 A2 A3 A4 A5 H I aa:Option Addr)(c1 c2 c3 c4 c5 K L M:Nat)(hF:oS ⟨A1,c1,A2,c2,A3,c3,A4,c4,A5,c5,H,K,I,L,aa,M⟩ f v)(S:ip f.fY.length)(hm:ip f.gP.length)(hl:∀p∈f.fY,ip p.length):Calls Tryz.prog 39 #[.agg #[f.gt,A1 f.ga.length c1,A2 f.f6.length c2,A3 f.ge.length c3,A4 f.a'.length c4,A5 f.gM.length c5,H f.d'.length K,I f.fY.length L,aa f.gP.length M]] v (Ju v ((f.fY.length<=20/\∀p∈f.fY,Xz p)/\f.gP.length<=64/\∀n∈f.gP,N9 n)):=by
 obtain⟨P,HP⟩:∃P:Prop,Hid (P=((f.fY.length<=20/\∀p∈f.fY,Xz p)/\f.gP.length<=64/\∀n∈f.gP,N9 n)):=⟨_,rfl⟩
 rw[<-HP.out];unfold ip at S hm;obtain⟨Wf,T,r,U⟩:=aO v 32 #[f.gt,A1 f.ga.length c1,A2 f.f6.length c2,A3 f.ge.length c3,A4 f.a'.length c4,A5 f.gM.length c5,H f.d'.length K,I f.fY.length L,aa f.gP.length M];have s:Hid (Below v v Wf):=J r;have kK:=J U;have oq:=J (hF.below r);obtain⟨d,qE,m,k⟩:=aO Wf 83 #[.int .i64 0,.int .i64 0];have E:Hid (Below v v d):=J (s.trans (m.mono s.size));have g:=J k;have N:Hid (Bk d v.heap.size 32 #[f.gt,A1 f.ga.length c1,A2 f.f6.length c2,A3 f.ge.length c3,A4 f.a'.length c4,A5 f.gM.length c5,H f.d'.length K,I f.fY.length L,aa f.gP.length M]):=J (Bk.l U m);have F:=J (oq.below m);have u:=E.size;have qy:Hid (Below d d d):=J (gD _ _);have O:=N.cell 7;have y:=k.cell 0;have z:=k.cell 1;have A:=k.frozen 0;have B:=k.frozen 1;clear hF r U m k oq;go_enter Tryz.func39,Tryz.ntmps39
 by_cases h1:20<f.fY.length
 .have V:decide ((20:Int)<f.fY.length)=true:=decide_eq_true (by omega);go_wp2_with fail
  exact bI rfl g qy s.size E _ _ rfl (λh=>absurd h (by decide))
 have V:decide ((20:Int)<f.fY.length)=false:=decide_eq_false (by omega);go_wp2_with fail
 try clear T
 try clear qE
 go_loopw [3] (λi wr=>∃q:Nat,q<=f.fY.length/\i=.int .i64 q/\Hid (Up f.fY q Xz)/\Below d d wr) (λi _=>f.fY.length - (intOf i).toNat)
 case atStart=>exact⟨0,by omega,rfl,J (Up.zero _ _),gD _ _⟩
 case round=>
  obtain⟨W,rfl⟩:∃x,x=wr:=⟨_,rfl⟩
  obtain⟨q,hq,rfl,l,a⟩:=hrel;have Q:Hid (Below d d W):=J a;have E5:Hid (Below v v W):=J (E.trans (a.mono u));clear O;clear y z A B;have O:=N.at a 7 rfl;have X:=N.at a 8 rfl;have y:=g.at a 0 rfl;have z:=g.at a 1 rfl;have A:=(g.l a).frozen 0;have B:=(g.l a).frozen 1;by_cases w:q<f.fY.length
  .obtain⟨b,o,x,D,t,rfl,Y,C,q0,s0⟩:=(F.fY.lw kx.ok a).code w;have HO:=J (Xc W D t x s0 (hl x (kj C)));clear Y s0 a;go_wp2_with fail
   refine HO.mono ?_;rintro e Z ⟨r4,rfl,Eg,zB⟩;have j:Below d d Z:=Q.trans (zB.mono Q.size);have G:Hid (Below d d Z):=J j;have E4:Hid (Below v v Z):=J (E.trans (j.mono u));clear O X;clear y z A B;have y:=g.at j 0 rfl;have z:=g.at j 1 rfl;have A:=(g.l j).frozen 0;have B:=(g.l j).frozen 1;clear HO j zB;by_cases R:r4=0
   .have dN:=J (l.snoc C (Eg R));clear Eg;subst R;go_wp2_with fail
    go_roundw
    case rel=>exact⟨q+1,by omega,by simp,dN,G⟩
    case measure=>simp[intOf];omega
   clear Eg;have VW:(r4 !=0)=true:=iP R;go_wp2_with fail
   exact bI rfl g G s.size E4 _ _ rfl (λh=>absurd h R)
  obtain rfl:q=f.fY.length:=by omega
  have HU:=J (λx (C:x∈f.fY)=>l.all x C);clear l a;by_cases h3:64<f.gP.length
  .have nJ:decide ((64:Int)<f.gP.length)=true:=decide_eq_true (by omega);go_wp2_with fail
   exact bI rfl g Q s.size E5 _ _ rfl (λh=>absurd h (by decide))
  have nJ:decide ((64:Int)<f.gP.length)=false:=decide_eq_false (by omega);go_wp2_with fail
  clear O;go_loopw [5] (λi wr=>∃q:Nat,q<=f.gP.length/\i=.int .i64 q/\Hid (Up f.gP q N9)/\Below d d wr) (λi _=>f.gP.length - (intOf i).toNat)
  case atStart=>exact⟨0,by omega,rfl,J (Up.zero _ _),Q⟩
  case round=>
   obtain⟨w6,rfl⟩:∃x,x=wr:=⟨_,rfl⟩
   obtain⟨q,hq,rfl,l,c⟩:=hrel;have iM:Hid (Below d d w6):=J c;have E6:Hid (Below v v w6):=J (E.trans (c.mono u));clear X;clear y z A B;have X:=N.at c 8 rfl;have y:=g.at c 0 rfl;have z:=g.at c 1 rfl;have A:=(g.l c).frozen 0;have B:=(g.l c).frozen 1;by_cases w:q<f.gP.length
   .obtain⟨b,o,e,rfl,Y,C,q0,-⟩:=(F.gP.lw gS.ok c).int w;clear Y c;by_cases m1:gZ e=false
    .go_wp2_with (first|(go_at_call 84;refine(dQ _ _).mono ?_;rintro e w' ⟨rfl,rfl⟩))
     exact bI rfl g iM s.size E6 _ _ rfl (λh=>absurd h (by decide))
    have BI:gZ e=true:=by simpa using m1
    have dN:=J (l.snoc C (pK BI));go_wp2_with (first|(go_at_call 84;refine(dQ _ _).mono ?_;rintro e w' ⟨rfl,rfl⟩))
    go_roundw
    case rel=>exact⟨q+1,by omega,by simp,dN,iM⟩
    case measure=>simp[intOf];omega
   obtain rfl:q=f.gP.length:=by omega
   have hg:P:=HP.mpr ⟨⟨by omega,HU⟩,by omega,λn S=>l.all n S⟩;clear c;go_wp2_with fail
   exact bI rfl g iM s.size E6 0 _ rfl (λ_=>hg)
section
attribute [-go_sem] storeVar
abbrev qi:TypeId:=32
abbrev rD:Array Value:= #[.int .i64 0,.slice none 0 0,.slice none 0 0,.slice none 0 0,.slice none 0 0,.slice none 0 0,.slice none 0 0,.slice none 0 0,.slice none 0 0]
def vL (w:World)(r:Except (Int×Int) iu)(e:Ending)(w':World):Prop:=
 Below w w w'/\match r with
  | .ok f=>∃a:List Value,e=.returned (.tuple #[.agg a.toArray,.int .i64 0,.int .i64 0])/\kt w' (Dt w') a f
  | .error (n,c)=>e=.returned (.tuple #[.agg rD,n,c])
theorem NS:(Tryz.prog.info? qi).map (·.size)=some 9:=by kernel_rfl
theorem Qp {fn:Func}{p u v:Tmp}{ty:TypeId}(h:fn.results=#[.cell p ty,.tmp u,.tmp v])(b:Array Value)(P:Program)(w:World):
  (results fn b).run P w=((asAddr (b.getD p undef)).run P w).andThen λa c=>((loadVar ty a).run P c).andThen λx d=> .ok (.tuple #[x,b.getD u undef,b.getD v undef]) d:=by
 simp only[results,h];simp[Sem.run_bind,Result.andThen]
theorem Gi {a:Array Value}(c:Bk W g qi h)(b:h.size=9)(v:a.getD 2 undef=.pointer (g,0))(u:a.getD 3 undef=d)(f:a.getD 4 undef=e):(results Tryz.f9 a).run Tryz.prog W=.ok (.tuple #[.agg h,d,e]) W:=by have:=run_loadVar_row (P:=Tryz.prog) W g qi qi h (0,0) _ c Tryz.underlying32 rfl (by rw[NS,b]);rw[Qp (fn:=Tryz.f9) (p:=2) (u:=3) (v:=4) (ty:=qi) rfl,v,u,f];simp[asAddr,Result.andThen,this]
theorem Mt:(zeroValue 98).run Tryz.prog v=.ok Value.nilFunc v:=by kernel_rfl
theorem RO:(Instr.makeMap 91 none).run Tryz.prog v=.ok (.map (some v.heap.size)) (v.alloc (.map #[] 0)):=by
 simp[Instr.makeMap,Result.andThen,newObj,go_sem]
 try rfl
structure wo (w5:World)(Bd p gm cm:Nat)(gl:Gl)(L:List (Int×List B))(rows:List (List P3))(k:Nat)(s:PS)(rv:Rows)(wr:World):Prop where
 st:ie wr Bd p gm cm gl s rv (pe (rows.take k))
 kq:KQ cm w5 wr
 low:Below Bd w5 wr
 ok:stmts gl nx (L.take k)=.ok s
theorem KQ.rows {w':World}(h:KQ b w w'){c:List Value}{a:List (List P3)}(d:RowsIn fE w c a):RowsIn fE w' c a:=d.kept λ_ _ _ d=>h.rS d (by decide) (by decide)
theorem KQ.asi {E:sa α}{k:Nat}{w':World}{f: α ->Option Value}(h:KQ k w w')(d:j9 E w b f)(c:b≠k):j9 E w' b f:=by obtain⟨e,a,g,i,j⟩:=d;exact⟨e,a,g,h.same b _ i c,j⟩
theorem KQ.boxes {w':World}(h:KQ g w w'){p:Nat}(c:mw w t p m a b)(d:nM t=false)(e:t≠kJ):mw w' t p m a b:=⟨h.bk c.par (by decide) (by decide),h.bk c.fn d e⟩
theorem M9 {n k:Nat}{e:List Value}{a:List (List P3)}(h:i7 w 96 A n 1 e)(d:RowsIn fE w e a)(i:k<n):
  ∃b o r f c g,A=some ⟨b,o,none⟩/\Hid (a[k]?=some r)/\b<w/\w.cell? ⟨b,o+k,none⟩=some (.slice f c g)/\i7 w fE f c 3 (dP r)/\c=r.length/\c<=g:=Xd h d (gD _ _) i
theorem tR.kq {w':World}{p:Nat}{f:B->Option Value}{c e M i j l d n o q:Nat}(h:tR w p m f b c a e M i j l d n o q)(k:KQ g w w')(r:m≠g):tR w' p m f b c a e M i j l d n o q:={h with map:=k.asi h.map r,vu:=k.boxes h.vu (by decide) (by decide),vq:=k.boxes h.vq (by decide) (by decide),vx:=k.boxes h.vx (by decide) (by decide),vr:=k.boxes h.vr (by decide) (by decide),vt:=k.boxes h.vt (by decide) (by decide),vK:=k.boxes h.vK (by decide) (by decide)}
theorem mB.low {w':World}{c:Nat}(h:mB w)(a:Below c w w')(b:nT<=c):mB w':=by
 exact⟨h.ops.keep (a.block _ (by
   have:5<nT:=by decide
   omega)),h.M.keep (a.block _ (by
     have:1<nT:=by decide
     omega)),h.kinds.keep (a.block _ (by
       have:2<nT:=by decide
       omega))⟩
theorem Kh {a:B}{k:Nat}{x:Wd}{q:List Wd}(h:(iH a)[k]?=some (x::q)):(iv a)[k]?=some (x.1,x.2.2::q.map (·.2.2)):=by unfold iv;rw[po,h];rfl
theorem Cn {a:B}{k:Nat}{e:Int}{l:List B}{s:PS}(h:stmts (bD 0 ((iv a).map (·.2))) nx ((iv a).take k)=.ok s)(b:(iv a)[k]?=some (y,l))(he:stmt (bD 0 ((iv a).map (·.2))) s l=.error e):qU a=.error (y,e):=by unfold qU;rw[Ev h b he];rfl
theorem YW {a:B}{s:PS}(h:stmts (bD 0 ((iv a).map (·.2))) nx (iv a)=.ok s):qU a=.ok s.f:=by unfold qU;rw[h];rfl
theorem Ye (a:B):(iv a).map (·.2)=aT (iH a):=by unfold iv aT;rw[xz];rfl
theorem TW (d:B)(hs:d.length<=800000000)(kL:mB v)(EE:nT<=v.heap.size):Calls Tryz.prog 9 #[.string d] v (vL v (qU d)):=by
 have bh:=λv=>RO v
 go_enter Tryz.func9,Tryz.ntmps9
 go_wp2_with fail
 refine(Ki _ d hs).mono ?_;rintro e D ⟨w,rfl,A,c,bj,rfl,I,al,z⟩;have Y:∀r∈iH d,r.length<=800000000/\∀x∈r,x.2.2.length<=800000000:=U7 d hs;have aW:Bk D v.heap.size qi rD:=(Bk.new v qi rD).keep (z.block _ (by simp));have a0:mB D:=(kL.below ((gD _ _).alloc (ae _) _)).below z;have bN:v.heap.size+1<=D.heap.size:=by have:=z.size;simpa using this
 have WF:Below v.heap.size v D:=((gD v.heap.size v).alloc (ae _) (.cells rD qi)).trans (z.mono (by simp));have bL:=CF d;have bM:=EB d;have ao:=Qj D A (iH d).length c (iH d) bj I al (by omega) (Tq d) (λr hr=>⟨by have:=(Y r hr).1;omega,(Y r hr).2⟩);rw[<-Ye]at ao;have a1:Hid (∀t n,(bD 0 ((iv d).map (·.2))).lookup t=some n->n<=1000000000):=λt n h=>by
  have h1:=Cx 0 _ t n h;have h2:=VZ ((iv d).map (·.2));rw[Ye]at h2;unfold aT at h2;rw[lE]at h2;rw[Ye]at h1;unfold aT at h1;omega
 have ap:Hid (∀(k:Nat) (no e:Int) (l:List B) (s:PS),stmts (bD 0 ((iv d).map (·.2))) nx ((iv d).take k)=.ok s->(iv d)[k]?=some (no,l)->stmt (bD 0 ((iv d).map (·.2))) s l=.error e->qU d=.error (no,e)):=λk no e l s h1 h2 h3=>Cn h1 h2 h3
 have bk:Hid (∀s,stmts (bD 0 ((iv d).map (·.2))) nx (iv d)=.ok s->qU d=.ok s.f):=λs h=>YW h
 have bl:Hid (∀(k:Nat) (x:Wd) (q:List Wd),(iH d)[k]?=some (x::q)->(iv d)[k]?=some (x.1,x.2.2::q.map (·.2.2))):=λk x q h=>Kh h
 have bm:=J (Tq d);have aq:Hid ((iv d).length=(iH d).length):=by show _=_;unfold iv;rw[lE]
 generalize bD 0 ((iv d).map (·.2))=Z at*
 have bn:=J a0;have a2:=J aW;have ar:=J WF;have KJ:=J I;have bo:=J al;have a3:=J Y;generalize iv d=LT at*
 generalize iH d=LL at*
 generalize bZ:qU d=PA at*
 clear bZ a0 aW WF I al Y z kL;go_wp2_with fail
 refine ao.mono ?_;rintro e p ⟨gm,rfl,bO,a4,O⟩;have bp:=O.size;have av:=J a4;have a5:=J O;clear ao a4 O;go_wp2_with fail
 obtain⟨w4,K⟩:∃x,((p.alloc (.map #[] 0)).alloc (.cells #[.int .i64 0,(),(),(),(),(),(),(),(),.bool false,.map (some gm),.map (some p.heap.size)] kJ))=x:=⟨_,rfl⟩
 rw[K];have a6:Bk w4 (p.heap.size+1) kJ (eQ nx MJ gm p.heap.size):=by
  have:=Bk.new (p.alloc (.map #[] 0)) kJ #[.int .i64 0,(),(),(),(),(),(),(),(),.bool false,.map (some gm),.map (some p.heap.size)];have e:(p.alloc (.map #[] 0)).heap.size=p.heap.size+1:=by simp
  rw[K,e]at this;exact this
 have aw:Below p p w4:=K ▸ ((gD _ _).alloc (ae _) _).alloc (by simp) _;have a7:j9 oJ w4 p.heap.size (λ_=>none):=K ▸ ((j9.new oJ p).below ((gD _ _).alloc (ae _) _));have WM:p.heap.size+2<=w4.heap.size:=by rw[<-K];simp
 clear K;have bP:=av.lt;have Eg:=J (ie.start (Bd:=D.heap.size) a6 (av.below aw) a7 a1 ⟨by omega,by omega,by omega,by omega⟩);have a8:=J aw;clear a6 aw a7 bh;refine(Qu w4 _).mono ?_;rintro e w6 ⟨M,f,kw,kz,rX,sD,lU,lV,pq,pz,rW,su,rY,sF,rfl,hM,a9,aa⟩;have bq:=J a9;have yB:=J (Eg.below aa);have ba:Below D D w6:=a5.trans ((a8.trans (aa.mono (by omega))).mono bp);have XC:Hid (∀W,Below D D W->(storeVar qi ⟨v.heap.size,0,none⟩ (.agg rD)).run Tryz.prog W.drew=.ok () W.drew/\∀G (no e:Int),PA=.error (no,e)->G.getD 2 undef=.pointer (some ⟨v.heap.size,0,none⟩)->G.getD 3 undef=.int .i64 no->G.getD 4 undef=.int .i64 e->bodyPost Tryz.prog Tryz.f9 (vL v PA) Exit.ret ⟨G,[]⟩ W.drew):=λW hW=>by
  have hb:Bk W v.heap.size qi rD:=a2.keep (hW.block _ (by omega));refine⟨?_,λG no e hp t2 t3 t4=> ?_⟩
  .have h:=run_storeVar_row (P:=Tryz.prog) W.drew v.heap.size qi qi rD rD hb (by rw[NS];rfl) rfl (by simp[Value.oneCell']);rw[setRow_self W.drew v.heap.size rD qi (0,0) hb]at h;exact h
  have O:Bk W.drew v.heap.size qi rD:=hb;refine bodyPost_ret (Gi O rfl t2 t3 t4) rfl ⟨(ar.trans (hW.mono ar.size)).drew,?_⟩;rw[hp]
 have bR:=aa.size;have br:M≠p.heap.size:=by omega
 have bS:v.heap.size+1<=w6.heap.size:=by omega
 have bs:=J ba;clear a9 aa ba Eg a8 a5 av a1;go_wp2_with fail
 go_loopw [24] (λi wr=>∃k s rv,k<=LL.length/\i=.int .i64 (k:Nat)/\wo w6 D.heap.size (p.heap.size+1) gm p.heap.size Z LT LL k s rv wr) (λi _=>LL.length - (intOf i).toNat)
 case atStart=>exact⟨0,nx,MJ,nz _,rfl,⟨by rw[List.take_zero];exact yB,KQ.refl _ _,gD _ _,by rw[List.take_zero];rfl⟩⟩
 case round=>
  obtain⟨k,s,rv,hk,rfl,C⟩:=hrel;have m:Below D D wr:=bs.trans C.low;have ZR:=J m;have zR:v.heap.size<wr.heap.size:=by have:=m.size;omega
  obtain⟨JG,-⟩:=XC wr m;by_cases bv:k<LL.length
  .obtain⟨b,o,r,Ar,kr,cr,rfl,hp,ND,bb,NR,L,bc⟩:=M9 KJ bo bv;have q1:wr.cell? ⟨b,o+k,none⟩=some (Ar kr cr):=((aj m).1 _ _ ND).trans bb;have bT:=mz ND m.size;have I:=NR.below m;have ab:=kj hp;have bd:lR wr Ar kr r:=⟨I,(a3 r ab).2,by rw[L];have:=(a3 r ab).1;omega⟩
   obtain⟨x,q,rfl⟩:∃x q,r=x::q:=by
    cases r with
    |nil=>exact absurd rfl (bm _ ab)
    |cons x q=>exact⟨x,q,rfl⟩
   have ay:af (x::q)=x.2.2::q.map (·.2.2):=rfl;obtain⟨x1,x2,x3⟩:=x;have aD:=bl k _ q hp;simp only at aD ay;obtain⟨bw,aE⟩:=Mo LL k _ hp;obtain⟨b1,o1,y1,y2,V,rfl,z,hy,ac,bf,aL⟩:=NR.rd.rB (k:=0) (by rw[L];simp);have bx:y1=x1/\y2=x2/\V=x3:=by have:=hy.out;simp only[oj,n',rE]at this;exact⟨this.1.symm,this.2.1.symm,this.2.2.symm⟩
   obtain⟨rfl,rfl,rfl⟩:=bx;simp only[Nat.zero_mul,Nat.add_zero]at ac bf aL;have p0:wr.cell? (b1,o1)=some (.int .i64 y1):=((aj m).1 _ _ z).trans ac;have p2:wr.cell? (b1,o1+2)=some (.string V):=((aj m).1 _ _ z).trans aL;have P0:Hid (∀W,Below D D W->W.cell? (b1,o1)=some (.int .i64 y1)):=λW hW=>((aj hW).1 _ _ z).trans ac
   have Z1:Hid (∀W,Below D D W->b1<W.heap.size/\v.heap.size<W.heap.size):=λW hW=>⟨mz z hW.size,by have:=hW.size;omega⟩
   have aM:=bq.kq C.kq br;have aN:=Er wr D.heap.size (p.heap.size+1) gm p.heap.size Z s rv (pe (LL.take k)) _ kr cr _ V (q.map (·.2.2)) aM C.st bd ay (by omega) bc (bn.below m) (by omega);have u:=aM.map.ss Tryz.underlying94 Tryz.underlying9 (Mt wr) V;have E:=J C;have bV:0<kr:=by rw[L];simp
   have EM:=J aD;have bW:=J (show kr=((y1,y2,V)::q).length from L);rw[<-L]at aE;have bg:=J aE;clear L aE bw C I NR bd aM hp hy ay ab aD bb ac bf aL ND bc m;rcases aN with⟨X,he⟩|⟨F,X,hE,N⟩|⟨F,a,b',X,hE,N⟩
   .rw[X]at u;have ad:(Instr.lookup 94 (.map (some M)) (.string V) true).run Tryz.prog wr=.ok (.tuple #[Value.nilFunc,.bool false]) wr:=u;have HE:=J (ap k _ _ _ _ E.ok EM he);have Ee:=J (XC wr ZR).2;clear u X he;go_wp2_with fail
    go_region
    all_goals
     go_wp2
     (try simp only[Exit.inBlock,Exit.then])
     exact Ee _ _ _ HE rfl rfl rfl
   .skip
    rw[X]at u;have ad:(Instr.lookup 94 (.map (some M)) (.string V) true).run Tryz.prog wr=.ok (.tuple #[.func (.func F) #[.pointer (p.heap.size+1,0)] #[],.bool true]) wr:=u;cases j:stmt Z s (V::q.map (·.2.2))with
    |error e9=>
     rw[j]at N;have HC:=J N;have HE:=J (ap k _ _ _ _ E.ok EM j);have bz:(e9 !=0)=true:=by simpa using WU _ _ _ _ j
     clear u X N j JG;go_wp2_with fail
     refine HC.mono ?_;rintro e Q ⟨y,rfl⟩;have uT:=ZR.trans y;obtain⟨JG,H⟩:=XC Q uT;have Ee:=J H;have bA:=P0 Q uT;obtain⟨bB,bE⟩:=Z1 Q uT;clear H y uT;go_wp2_with fail
     go_region
     all_goals
      go_wp2
      (try simp only[Exit.inBlock,Exit.then])
      exact Ee _ _ _ HE rfl rfl rfl
    |ok s'=>
     rw[j]at N;have HC:=J N;have aQ:Hid (stmts Z nx (LT.take (k+1))=.ok s'):=by show _=_;rw[DV E.out.ok EM.out,j]
     clear u X N j JG;go_wp2_with fail
     refine HC.mono ?_;rintro e Q ⟨y,rfl,SQ,R,S⟩;have Aj:Hid (wo w6 D.heap.size (p.heap.size+1) gm p.heap.size Z LT LL (k+1) s' R Q):=⟨by rw[bg.out];exact S,E.kq.trans SQ,E.low.trans y,aQ⟩
     clear y SQ S;go_wp2_with fail
     go_roundw
     case rel=>exact⟨k+1,s',R,by omega,by simp,Aj⟩
     case measure=>simp[intOf];omega
   skip
   rw[X]at u;have ad:(Instr.lookup 94 (.map (some M)) (.string V) true).run Tryz.prog wr=.ok (.tuple #[.func (.func F) #[] #[.pointer (a,0),.pointer (b',0)],.bool true]) wr:=u;cases j:stmt Z s (V::q.map (·.2.2))with
   |error e9=>
    rw[j]at N;have HC:=J N;have HE:=J (ap k _ _ _ _ E.ok EM j);have bz:(e9 !=0)=true:=by simpa using WU _ _ _ _ j
    clear u X N j JG;go_wp2_with fail
    refine HC.mono ?_;rintro e Q ⟨y,rfl⟩;have uT:=ZR.trans y;obtain⟨JG,H⟩:=XC Q uT;have Ee:=J H;have bA:=P0 Q uT;obtain⟨bB,bE⟩:=Z1 Q uT;clear H y uT;go_wp2_with fail
    go_region
    all_goals
     go_wp2
     (try simp only[Exit.inBlock,Exit.then])
     exact Ee _ _ _ HE rfl rfl rfl
   |ok s'=>
    rw[j]at N;have HC:=J N;have aQ:Hid (stmts Z nx (LT.take (k+1))=.ok s'):=by show _=_;rw[DV E.out.ok EM.out,j]
    clear u X N j JG;go_wp2_with fail
    refine HC.mono ?_;rintro e Q ⟨y,rfl,SQ,R,S⟩;have Aj:Hid (wo w6 D.heap.size (p.heap.size+1) gm p.heap.size Z LT LL (k+1) s' R Q):=⟨by rw[bg.out];exact S,E.kq.trans SQ,E.low.trans y,aQ⟩
    clear y SQ S;go_wp2_with fail
    go_roundw
    case rel=>exact⟨k+1,s',R,by omega,by simp,Aj⟩
    case measure=>simp[intOf];omega
  obtain rfl:k=LL.length:=by omega
  have ak:stmts Z nx LT=.ok s:=by
   have:=C.ok
   rwa [oY (by rw[aq.out];exact ae _)]at this
  have bF:=J (bk s ak);have aR:Bk wr v.heap.size qi rD:=a2.keep (m.block _ (by omega));have T:=C.st.done;obtain⟨A1,c1,A2,c2,A3,c3,A4,c4,A5,c5,A6,c6,A7,c7,A8,c8,ee,d0,d1,d2,d3,d4,d5,d6,d7,d8⟩:=C.st.done;have bZ:=C.st.par;have bH:Hid (kt wr (Dt wr) [.int .i64 s.f.gt,A1 s.f.ga.length c1,A2 s.f.f6.length c2,A3 s.f.ge.length c3,A4 s.f.a'.length c4,A5 s.f.gM.length c5,A6 s.f.d'.length c6,A7 s.f.fY.length c7,A8 s.f.gP.length c8] s.f):=by show kt _ _ _ _;rw[<-ee];exact T
  simp only[tA,and_true,true_and]at ee;obtain⟨e1,e2,e3,e4,e5,e6,e7,e8⟩:=ee;have m0:=bZ.cell 0;have m1:=bZ.cell 1;have m2:=bZ.cell 2;have m3:=bZ.cell 3;have m4:=bZ.cell 4;have m5:=bZ.cell 5;have m6:=bZ.cell 6;have m7:=bZ.cell 7;have m8:=bZ.cell 8;simp only[eQ,List.getElem?_toArray,oX,oj]at m0 m1 m2 m3 m4 m5 m6 m7 m8;rw[e1]at m1;rw[e2]at m2;rw[e3]at m3;rw[e4]at m4;rw[e5]at m5;rw[e6]at m6;rw[e7]at m7;rw[e8]at m8;have bX:=run_storeVar_row (P:=Tryz.prog) wr v.heap.size qi qi rD #[.int .i64 s.f.gt,A1 s.f.ga.length c1,A2 s.f.f6.length c2,A3 s.f.ge.length c3,A4 s.f.a'.length c4,A5 s.f.gM.length c5,A6 s.f.d'.length c6,A7 s.f.fY.length c7,A8 s.f.gP.length c8] aR (by rw[NS];rfl) rfl (by simp[Value.oneCell']);have jl:=J aR;have bK:Hid (Below v.heap.size v wr):=ar.trans (m.mono (by omega));have zp:=bZ.lt;clear C ak aR T d0 d1 d2 d3 d4 d5 d6 d7 d8 bZ e1 e2 e3 e4 e5 e6 e7 e8 JG m;go_wp2_with fail
  (try simp only[Exit.inBlock,Exit.then])
  refine bodyPost_ret (Gi (setRow_heap wr v.heap.size rD _ qi (0,0) jl) rfl rfl rfl rfl) rfl ⟨below_setRow bK (ae _) _,?_⟩;rw[bF.out];refine⟨_,rfl,?_⟩;have U:Same (Dt wr) wr (wr.setRow v.heap.size #[.int .i64 s.f.gt,A1 s.f.ga.length c1,A2 s.f.f6.length c2,A3 s.f.ge.length c3,A4 s.f.a'.length c4,A5 s.f.gM.length c5,A6 s.f.d'.length c6,A7 s.f.fY.length c7,A8 s.f.gP.length c8]):=λg ⟨cs,t,hk,hd⟩=>setRow_other _ _ _ _ (λe=>by
   subst e;rw[(dw hk jl.out).1]at hd
   revert hd
   decide)
  exact kt.ok.mono (kt.ok.keep bH U) (λg ⟨cs,t,hk,hd⟩=>⟨cs,t,(U g ⟨cs,t,hk,hd⟩).trans hk,hd⟩)
end
theorem FA (f:iu)(A1 A2 A3 A4 A5 M N O:Option Addr)(c1 c2 c3 c4 c5 Q R S:Nat)(hF:oS ⟨A1,c1,A2,c2,A3,c3,A4,c4,A5,c5,M,Q,N,R,O,S⟩ f v)(Z:ip f.ga.length)(ak:ip f.ge.length)(U:ip f.a'.length)(hL:∀l∈f.ge,vy l)(hX:∀x∈f.a',vA x):Calls Tryz.prog 37 #[.agg #[f.gt,A1 f.ga.length c1,A2 f.f6.length c2,A3 f.ge.length c3,A4 f.a'.length c4,A5 f.gM.length c5,M f.d'.length Q,N f.fY.length R,O f.gP.length S]] v (Ju v ((f.ge.length<=40/\∀l∈f.ge,ti f.ga.length f.ge.length l)/\f.a'.length<=20/\∀x∈f.a',th f.ge.length x)):=by
 obtain⟨P,HP⟩:∃P:Prop,Hid (P=((f.ge.length<=40/\∀l∈f.ge,ti f.ga.length f.ge.length l)/\f.a'.length<=20/\∀x∈f.a',th f.ge.length x)):=⟨_,rfl⟩
 rw[<-HP.out];have aa:=ak;have ab:=U;unfold ip at aa ab;obtain⟨Wf,ac,K,bV⟩:=aO v 32 #[f.gt,A1 f.ga.length c1,A2 f.f6.length c2,A3 f.ge.length c3,A4 f.a'.length c4,A5 f.gM.length c5,M f.d'.length Q,N f.fY.length R,O f.gP.length S];have L:Hid (Below v v Wf):=J K;have oq:=J (hF.below K);obtain⟨a,qE,r,m⟩:=aO Wf 83 #[.int .i64 0,.int .i64 0];have T:Hid (Below v v a):=J (L.trans (r.mono L.size));have b:=J m;have n:Hid (Bk a v.heap.size 32 #[f.gt,A1 f.ga.length c1,A2 f.f6.length c2,A3 f.ge.length c3,A4 f.a'.length c4,A5 f.gM.length c5,M f.d'.length Q,N f.fY.length R,O f.gP.length S]):=J (Bk.l bV r);have V:=J (oq.below r);have s:=T.size;have qy:Hid (Below a a a):=J (gD _ _);have u:=n.cell 0;have w:=n.cell 1;have y:=n.cell 2;have z:=n.cell 3;have A:=n.cell 4;have B:=n.cell 5;have C:=n.cell 6;have D:=n.cell 7;have E:=n.cell 8;have F:=m.cell 0;have G:=m.cell 1;have H:=m.frozen 0;have I:=m.frozen 1;clear hF K bV r m oq;go_enter Tryz.func37,Tryz.ntmps37
 by_cases h1:40<f.ge.length
 .have ad:decide ((40:Int)<f.ge.length)=true:=decide_eq_true (by omega);go_wp2_with fail
  exact bI rfl b qy L.size T _ _ rfl (λh=>absurd h (by decide))
 have ad:decide ((40:Int)<f.ge.length)=false:=decide_eq_false (by omega);go_wp2_with fail
 try clear ac
 try clear qE
 go_loopw [3] (λi wr=>∃q:Nat,q<=f.ge.length/\i=.int .i64 q/\Hid (Up f.ge q (ti f.ga.length f.ge.length))/\Below a a wr) (λi _=>f.ge.length - (intOf i).toNat)
 case atStart=>exact⟨0,by omega,rfl,J (Up.zero _ _),gD _ _⟩
 case round=>
  obtain⟨w5,rfl⟩:∃x,x=wr:=⟨_,rfl⟩
  obtain⟨q,hq,rfl,k,c⟩:=hrel;have Y:Hid (Below a a w5):=J c;have E5:Hid (Below v v w5):=J (T.trans (c.mono s));clear u w y z A B C D E F G H I;obtain⟨u,w,y,z,A,B,C,D,E⟩:=nine n c;have F:=b.at c 0 rfl;have G:=b.at c 1 rfl;have H:=(b.l c).frozen 0;have I:=(b.l c).frozen 1;by_cases p:q<f.ge.length
  .obtain⟨x,o⟩:∃x,f.ge[q]?=some x:=⟨_,jO p⟩
   have Hx:=J o;have W:=J (Zg w5 f A1 A2 A3 A4 A5 M N O c1 c2 c3 c4 c5 Q R S q (V.below c) x o p Z ak (hL x (kj o)));clear c o;go_wp2_with fail
   refine W.mono ?_;rintro e w6 ⟨r6,rfl,yB,wH⟩;have g:Below a a w6:=Y.trans (wH.mono Y.size);have iM:Hid (Below a a w6):=J g;have E6:Hid (Below v v w6):=J (T.trans (g.mono s));clear u w y z A B C D E F G H I;obtain⟨u,w,y,z,A,B,C,D,E⟩:=nine n g;have F:=b.at g 0 rfl;have G:=b.at g 1 rfl;have H:=(b.l g).frozen 0;have I:=(b.l g).frozen 1;clear W g wH;by_cases t:r6=0
   .have dN:=J (k.snoc Hx (yB t));clear yB;subst t;go_wp2_with fail
    go_roundw
    case rel=>exact⟨q+1,by omega,by simp,dN,iM⟩
    case measure=>simp[intOf];omega
   clear yB;have VW:(r6 !=0)=true:=iP t;go_wp2_with fail
   exact bI rfl b iM L.size E6 _ _ rfl (λh=>absurd h t)
  obtain rfl:q=f.ge.length:=by omega
  have al:=J (λx (o:x∈f.ge)=>k.all x o);clear k c;by_cases h3:20<f.a'.length
  .have nJ:decide ((20:Int)<f.a'.length)=true:=decide_eq_true (by omega);go_wp2_with fail
   exact bI rfl b Y L.size E5 _ _ rfl (λh=>absurd h (by decide))
  have nJ:decide ((20:Int)<f.a'.length)=false:=decide_eq_false (by omega);go_wp2_with fail
  go_loopw [5] (λi wr=>∃q:Nat,q<=f.a'.length/\i=.int .i64 q/\Hid (Up f.a' q (th f.ge.length))/\Below a a wr) (λi _=>f.a'.length - (intOf i).toNat)
  case atStart=>exact⟨0,by omega,rfl,J (Up.zero _ _),Y⟩
  case round=>
   obtain⟨w7,rfl⟩:∃x,x=wr:=⟨_,rfl⟩
   obtain⟨q,hq,rfl,k,d⟩:=hrel;have oV:Hid (Below a a w7):=J d;have E7:Hid (Below v v w7):=J (T.trans (d.mono s));clear u w y z A B C D E F G H I;obtain⟨u,w,y,z,A,B,C,D,E⟩:=nine n d;have F:=b.at d 0 rfl;have G:=b.at d 1 rfl;have H:=(b.l d).frozen 0;have I:=(b.l d).frozen 1;by_cases p:q<f.a'.length
   .obtain⟨x,o⟩:∃x,f.a'[q]?=some x:=⟨_,jO p⟩
    have Hx:=J o;have W:=J (J7 w7 f A1 A2 A3 A4 A5 M N O c1 c2 c3 c4 c5 Q R S q (V.below d) x o p U ak (hX x (kj o)));clear d o;go_wp2_with fail
    refine W.mono ?_;rintro e w8 ⟨r8,rfl,Eh,X⟩;have j:Below a a w8:=oV.trans (X.mono oV.size);have lL:Hid (Below a a w8):=J j;have E8:Hid (Below v v w8):=J (T.trans (j.mono s));clear u w y z A B C D E F G H I;obtain⟨u,w,y,z,A,B,C,D,E⟩:=nine n j;have F:=b.at j 0 rfl;have G:=b.at j 1 rfl;have H:=(b.l j).frozen 0;have I:=(b.l j).frozen 1;clear W j X;by_cases t:r8=0
    .have dN:=J (k.snoc Hx (Eh t));clear Eh;subst t;go_wp2_with fail
     go_roundw
     case rel=>exact⟨q+1,by omega,by simp,dN,lL⟩
     case measure=>simp[intOf];omega
    clear Eh;have VW:(r8 !=0)=true:=iP t;go_wp2_with fail
    exact bI rfl b lL L.size E8 _ _ rfl (λh=>absurd h t)
   obtain rfl:q=f.a'.length:=by omega
   have ao:=J (λx (o:x∈f.a')=>k.all x o);clear k d;have hg:P:=HP.mpr ⟨⟨by omega,al⟩,by omega,ao⟩;go_wp2_with fail
   exact bI rfl b oV L.size E7 0 _ rfl (λ_=>hg)
theorem Fu (f:iu)(A1 A2 A3 A4 A5 C D E:Option Addr)(c1 c2 c3 c4 c5 F G H:Nat)(hF:oS ⟨A1,c1,A2,c2,A3,c3,A4,c4,A5,c5,C,F,D,G,E,H⟩ f v)(O:ip f.ga.length)(hm:ip f.f6.length):Calls Tryz.prog 36 #[.agg #[f.gt,A1 f.ga.length c1,A2 f.f6.length c2,A3 f.ge.length c3,A4 f.a'.length c4,A5 f.gM.length c5,C f.d'.length F,D f.fY.length G,E f.gP.length H]] v (Ju v (f.f6.length<=1000/\∀c∈f.f6,(0<=c.jN/\c.jN<=1114111)/\In f.ga.length c.z)):=by
 obtain⟨P,HP⟩:∃P:Prop,Hid (P=(f.f6.length<=1000/\∀c∈f.f6,(0<=c.jN/\c.jN<=1114111)/\In f.ga.length c.z)):=⟨_,rfl⟩
 rw[<-HP.out];unfold ip at O hm;obtain⟨Wf,Q,r,R⟩:=aO v 32 #[f.gt,A1 f.ga.length c1,A2 f.f6.length c2,A3 f.ge.length c3,A4 f.a'.length c4,A5 f.gM.length c5,C f.d'.length F,D f.fY.length G,E f.gP.length H];have m:Hid (Below v v Wf):=J r;have kK:=J R;have oq:=J (hF.below r);obtain⟨l,qE,p,g⟩:=aO Wf 83 #[.int .i64 0,.int .i64 0];have I:Hid (Below v v l):=J (m.trans (p.mono m.size));have e:=J g;have ad:Hid (Bk l v.heap.size 32 #[f.gt,A1 f.ga.length c1,A2 f.f6.length c2,A3 f.ge.length c3,A4 f.a'.length c4,A5 f.gM.length c5,C f.d'.length F,D f.fY.length G,E f.gP.length H]):=J (Bk.l R p);have u:=J (oq.below p);have w:=I.size;have qy:Hid (Below l l l):=J (gD _ _);have k2:=ad.cell 2;have K:=g.cell 0;have L:=g.cell 1;have M:=g.frozen 0;have N:=g.frozen 1;clear hF r R p g oq;go_enter Tryz.func36,Tryz.ntmps36
 by_cases S:1000<f.f6.length
 .have s:decide ((1000:Int)<f.f6.length)=true:=decide_eq_true (by omega);go_wp2_with fail
  exact bI rfl e qy m.size I _ _ rfl (λh=>absurd h (by decide))
 have s:decide ((1000:Int)<f.f6.length)=false:=decide_eq_false (by omega);go_wp2_with fail
 try clear Q
 try clear qE
 go_loopw [3] (λi wr=>∃q:Nat,q<=f.f6.length/\i=.int .i64 q/\Hid (Up f.f6 q (λc=>(0<=c.jN/\c.jN<=1114111)/\In f.ga.length c.z))/\Below l l wr) (λi _=>f.f6.length - (intOf i).toNat)
 case atStart=>exact⟨0,by omega,rfl,J (Up.zero _ _),gD _ _⟩
 case round=>
  obtain⟨T,rfl⟩:∃x,x=wr:=⟨_,rfl⟩
  obtain⟨q,hq,rfl,z,d⟩:=hrel;have fQ:Hid (Below l l T):=J d;have E5:Hid (Below v v T):=J (I.trans (d.mono w));clear k2;clear K L M N;have k2:=ad.at d 2 rfl;have K:=e.at d 0 rfl;have L:=e.at d 1 rfl;have M:=(e.l d).frozen 0;have N:=(e.l d).frozen 1;by_cases U:q<f.f6.length
  .obtain⟨b,o,x,rfl,hb,hx,q0,q1,-,-⟩:=(u.f6.lw kO.ok d).Y U;obtain⟨W3,aa,A,t⟩:=aO T 62 #[.int .i64 x.jN,.int .i64 x.z];have a:Hid (Below l l W3):=J (d.trans (A.mono d.size));have B:Hid (Below v v W3):=J (I.trans (a.mono w));have V:=J (u.f6.lw kO.ok a);have u1:=ad.at a 1 rfl;have u2:=ad.at a 2 rfl;have p0:=t.cell 0;have p1:=t.cell 1;clear K L M N;have K:=e.at a 0 rfl;have L:=e.at a 1 rfl;have M:=(e.l a).frozen 0;have N:=(e.l a).frozen 1;clear hb A t d;by_cases S:x.jN<0
   .go_wp2_with fail
    exact bI rfl e a m.size B _ _ rfl (λh=>absurd h (by decide))
   by_cases h2:1114111<x.jN
   .go_wp2_with fail
    exact bI rfl e a m.size B _ _ rfl (λh=>absurd h (by decide))
   by_cases W:x.z<0
   .go_wp2_with fail
    exact bI rfl e a m.size B _ _ rfl (λh=>absurd h (by decide))
   by_cases X:(f.ga.length:Int)<=x.z
   .go_wp2_with fail
    exact bI rfl e a m.size B _ _ rfl (λh=>absurd h (by decide))
   have dN:=J (z.snoc hx ⟨⟨by omega,by omega⟩,In.of W X⟩);by_cases Y:q=0
   .subst Y;simp only[Nat.zero_mul,Nat.add_zero]at q0 q1;have e0:((0:Nat):Int)=0:=rfl;rw[e0];go_wp2_with fail
    go_quiet (fail)
    go_wp2_with fail
    go_roundw
    case rel=>exact⟨0+1,by omega,by simp,dN,below_drewN a _⟩
    case measure=>simp[intOf];omega
   obtain⟨j,rfl⟩:∃j,q=j+1:=⟨q - 1,by omega⟩
   obtain⟨b',o',y,e',Z,hy,v0,v1,r1⟩:=V.Y (k:=j) (by omega);obtain⟨rfl,rfl⟩:b=b'/\o=o':=by simpa using e'
   clear Z r1 e';by_cases h5:x.jN<=y.jN
   .go_wp2_with fail
    go_quiet (fail)
    go_wp2_with fail
    exact bI rfl e (below_drewN a _) m.size (below_drewN B _) _ _ rfl (λh=>absurd h (by decide))
   have Az:decide (x.jN<=y.jN)=false:=decide_eq_false h5;go_wp2_with fail
   go_quiet (fail)
   go_wp2_with fail
   go_roundw
   case rel=>exact⟨j+1+1,by omega,by simp,dN,below_drewN a _⟩
   case measure=>simp[intOf];omega
  obtain rfl:q=f.f6.length:=by omega
  have hg:P:=HP.mpr ⟨by omega,λn O=>z.all n O⟩;clear d;go_wp2_with fail
  exact bI rfl e fQ m.size E5 0 _ rfl (λ_=>hg)
def AR (t:mC):Prop:= -64<=t.start/\t.start<=t.jx/\t.jx<=t.jz/\t.jz<=64
def KA (a:mT):Prop:=hZ a.gn=true/\N9 a.km/\N9 a.kA/\N9 a.kv
def QY (n:Nat)(r:Region):Prop:=r.kB.length=n/\∀t∈r.kB,AR t
theorem Up.xj {l:List α}{n:Nat}{P:α->Prop}(h:Up l n P)(e:l.length=n):∀x∈l,P x:=λx a=>h x (by rwa [oY (Nat.le_of_eq e)])
theorem J0 (f:iu)(A1 A2 A3 A4 A5 A6 A7 A8:Option Addr)(c1 c2 c3 c4 c5 c6 c7 c8:Nat)(hF:oS ⟨A1,c1,A2,c2,A3,c3,A4,c4,A5,c5,A6,c6,A7,c7,A8,c8⟩ f v)(hn:ip f.gM.length)(hm:ip f.d'.length)(hN:∀a∈f.gM,ip a.gn.length)(hT:∀r∈f.d',ip r.kB.length):Calls Tryz.prog 38 #[.agg #[f.gt,A1 f.ga.length c1,A2 f.f6.length c2,A3 f.ge.length c3,A4 f.a'.length c4,A5 f.gM.length c5,A6 f.d'.length c6,A7 f.fY.length c7,A8 f.gP.length c8]] v (Ju v ((f.gM.length<=3/\∀a∈f.gM,KA a)/\f.d'.length<=16/\∀r∈f.d',QY f.gM.length r)):=by
 obtain⟨P,HP⟩:∃P:Prop,Hid (P=((f.gM.length<=3/\∀a∈f.gM,KA a)/\f.d'.length<=16/\∀r∈f.d',QY f.gM.length r)):=⟨_,rfl⟩
 rw[<-HP.out];unfold ip at hn hm;obtain⟨Wf,ap,R,bV⟩:=aO v 32 #[f.gt,A1 f.ga.length c1,A2 f.f6.length c2,A3 f.ge.length c3,A4 f.a'.length c4,A5 f.gM.length c5,A6 f.d'.length c6,A7 f.fY.length c7,A8 f.gP.length c8];have K:Hid (Below v v Wf):=J R;have kK:=J bV;have oq:=J (hF.below R);obtain⟨d,qE,L,w⟩:=aO Wf 83 #[.int .i64 0,.int .i64 0];have M:Hid (Below v v d):=J (K.trans (L.mono K.size));have c:=J w;have H:Hid (Bk d v.heap.size 32 #[f.gt,A1 f.ga.length c1,A2 f.f6.length c2,A3 f.ge.length c3,A4 f.a'.length c4,A5 f.gM.length c5,A6 f.d'.length c6,A7 f.fY.length c7,A8 f.gP.length c8]):=J (Bk.l bV L);have S:=J (oq.below L);have u:=M.size;have qy:Hid (Below d d d):=J (gD _ _);have A:=H.cell 5;have C:=w.cell 0;have E:=w.cell 1;have F:=w.frozen 0;have G:=w.frozen 1;clear hF R bV L w oq;go_enter Tryz.func38,Tryz.ntmps38
 by_cases h1:3<f.gM.length
 .have aq:decide ((3:Int)<f.gM.length)=true:=decide_eq_true (by omega);go_wp2_with fail
  exact bI rfl c qy K.size M _ _ rfl (λh=>absurd h (by decide))
 have aq:decide ((3:Int)<f.gM.length)=false:=decide_eq_false (by omega);go_wp2_with fail
 try clear ap
 try clear qE
 go_loopw [3] (λi wr=>∃q:Nat,q<=f.gM.length/\i=.int .i64 q/\Hid (Up f.gM q KA)/\Below d d wr) (λi _=>f.gM.length - (intOf i).toNat)
 case atStart=>exact⟨0,by omega,rfl,J (Up.zero _ _),gD _ _⟩
 case round=>
  obtain⟨w5,rfl⟩:∃x,x=wr:=⟨_,rfl⟩
  obtain⟨q,hq,rfl,B,g⟩:=hrel;have fQ:Hid (Below d d w5):=J g;have E5:Hid (Below v v w5):=J (M.trans (g.mono u));clear A;clear C E F G;have A:=H.at g 5 rfl;have T:=H.at g 6 rfl;have C:=c.at g 0 rfl;have E:=c.at g 1 rfl;have F:=(c.l g).frozen 0;have G:=(c.l g).frozen 1;by_cases U:q<f.gM.length
  .clear T;obtain⟨b,o,x,rfl,hb,V,W,q1,q2,q3,-⟩:=(S.gM.lw kI.ok g).qS U;obtain⟨W3,ar,ab,X⟩:=aO w5 75 #[.string ⟨x.gn.toArray⟩,.int .i64 x.km,.int .i64 x.kA,.int .i64 x.kv];have I:Hid (Below d d W3):=J (g.trans (ab.mono g.size));have E3:Hid (Below v v W3):=J (M.trans (I.mono u));have lM:=J X;have p0:=X.cell 0;have HO:=J (Uo W3 x.gn (hN x (kj V)));clear hb ab X g;go_wp2_with fail
   refine HO.mono ?_;rintro e w4 ⟨b4,rfl,Eg,ak⟩;have Q:Below d d w4:=I.trans (ak.mono I.size);have av:Hid (Below d d w4):=J Q;have E4:Hid (Below v v w4):=J (M.trans (Q.mono u));clear A;clear C E F G;have A:=H.at Q 5 rfl;have C:=c.at Q 0 rfl;have E:=c.at Q 1 rfl;have F:=(c.l Q).frozen 0;have G:=(c.l Q).frozen 1;clear HO Q W q1 q2 q3 ar;cases b4
   .clear Eg ak;go_wp2_with fail
    exact bI rfl c av K.size E4 _ _ rfl (λh=>absurd h (by decide))
   have HN:=J (Eg rfl);clear Eg;go_wp2_with fail
   go_loopw [6] (λi wr=>∃j:Nat,j<=q/\i=.int .i64 j/\Below W3 W3 wr) (λi _=>q - (intOf i).toNat)
   case atStart=>exact⟨0,by omega,rfl,ak⟩
   case round=>
    obtain⟨w6,rfl⟩:∃x,x=wr:=⟨_,rfl⟩
    obtain⟨j,hj,rfl,Y⟩:=hrel;have s:Below d d w6:=I.trans (Y.mono I.size);have iM:Hid (Below d d w6):=J s;have E6:Hid (Below v v w6):=J (M.trans (s.mono u));clear A;clear C E F G;have A:=H.at s 5 rfl;have C:=c.at s 0 rfl;have E:=c.at s 1 rfl;have F:=(c.l s).frozen 0;have G:=(c.l s).frozen 1;have aw:=J Y;clear p0;have p0:=lM.at Y 0 rfl;have p1:=lM.at Y 1 rfl;have p2:=lM.at Y 2 rfl;have p3:=lM.at Y 3 rfl;by_cases aL:j<q
    .obtain⟨b2,o2,z,e2,Z,hz,v0,-⟩:=(S.gM.lw kI.ok s).qS (k:=j) (by omega);obtain⟨rfl,rfl⟩:b=b2/\o=o2:=by simpa using e2
     clear Z e2 s ak p1 p2 p3 Y;by_cases N:z.gn=x.gn
     .have ay:(z.gn==x.gn)=true:=by rw[N];simp
      clear N;go_wp2_with fail
      go_quiet (fail)
      go_wp2_with fail
      exact bI rfl c (below_drewN iM _) K.size (below_drewN E6 _) _ _ rfl (λh=>absurd h (by decide))
     have ay:(z.gn==x.gn)=false:=by simpa using N
     clear N hz;go_wp2_with fail
     go_quiet (fail)
     go_wp2_with fail
     go_roundw
     case rel=>exact⟨j+1,by omega,by simp,below_drewN aw _⟩
     case measure=>simp[intOf];omega
    obtain rfl:q=j:=by omega
    clear s ak p0 A;by_cases m1:gZ x.km=false\/gZ x.kv=false\/x.kA<x.km\/x.kv<x.kA
    .have hm:∃c1 c2 c3 c4:Bool,gZ x.km=c1/\gZ x.kv=c2/\decide (x.kA<x.km)=c3/\decide (x.kv<x.kA)=c4/\((c3||c4)|| !c1|| !c2)=true:=⟨_,_,_,_,rfl,rfl,rfl,rfl,by
      rcases m1 with m|m|m|m<;>simp[m]⟩
     clear m1;obtain⟨c1,c2,c3,c4,M1,M2,M3,M4,M5⟩:=hm;cases c3<;>cases c4<;>cases c1<;>cases c2<;>first
      |(exfalso;revert M5;decide)
      |(clear M5;go_wp2_with (first|(go_at_call 84;refine(dQ _ _).mono ?_;rintro e w' ⟨rfl,rfl⟩));exact bI rfl c iM K.size E6 _ _ rfl (λh=>absurd h (by decide)))
    have BI:gZ x.km=true:=by cases h:gZ x.km<;>simp_all
    have Ls:gZ x.kv=true:=by cases h:gZ x.kv<;>simp_all
    have VV:decide (x.kA<x.km)=false:=decide_eq_false λh=>m1 (.inr (.inr (.inl h)))
    have aD:decide (x.kv<x.kA)=false:=decide_eq_false λh=>m1 (.inr (.inr (.inr h)))
    have a3:=of_decide_eq_false VV;have a4:=of_decide_eq_false aD;clear m1;have n1:=pK BI;have n2:=pK Ls;have dN:=J (B.snoc V (show KA x from⟨HN,n1,⟨by unfold N9 at n1 n2;omega,by unfold N9 at n1 n2;omega⟩,n2⟩));clear n1 n2;go_wp2_with (first|(go_at_call 84;refine(dQ _ _).mono ?_;rintro e w' ⟨rfl,rfl⟩))
    go_roundw
    case rel=>exact⟨q+1,by omega,by simp,dN,iM⟩
    case measure=>simp[intOf];omega
  obtain rfl:q=f.gM.length:=by omega
  have HU:=J (λx (V:x∈f.gM)=>B.all x V);clear B g;by_cases h3:16<f.d'.length
  .have nJ:decide ((16:Int)<f.d'.length)=true:=decide_eq_true (by omega);go_wp2_with fail
   exact bI rfl c fQ K.size E5 _ _ rfl (λh=>absurd h (by decide))
  have nJ:decide ((16:Int)<f.d'.length)=false:=decide_eq_false (by omega);go_wp2_with fail
  go_loopw [9] (λi wr=>∃q:Nat,q<=f.d'.length/\i=.int .i64 q/\Hid (Up f.d' q (QY f.gM.length))/\Below d d wr) (λi _=>f.d'.length - (intOf i).toNat)
  case atStart=>exact⟨0,by omega,rfl,J (Up.zero _ _),fQ⟩
  case round=>
   obtain⟨w7,rfl⟩:∃x,x=wr:=⟨_,rfl⟩
   obtain⟨q,hq,rfl,B,p⟩:=hrel;have oV:Hid (Below d d w7):=J p;have E7:Hid (Below v v w7):=J (M.trans (p.mono u));clear A T;clear C E F G;have A:=H.at p 5 rfl;have T:=H.at p 6 rfl;have C:=c.at p 0 rfl;have E:=c.at p 1 rfl;have F:=(c.l p).frozen 0;have G:=(c.l p).frozen 1;by_cases U:q<f.d'.length
   .obtain⟨b,o,y,D,t,ac,ad,V,W,s0⟩:=S.e.region U;simp only at ac;subst ac;have Q0:=J W;have HT:=J s0;have aM:y.kB.length<=10000000000000:=hT y (kj V);clear W s0;have W:=((aj p).1 _ (o+q) ad).trans Q0;clear p;by_cases aa:y.kB.length=f.gM.length
    .have aE:((y.kB.length:Int) !=(f.gM.length:Int))=false:=by rw[aa];simp
     go_wp2_with fail
     go_quiet (fail)
     go_wp2_with fail
     go_loopw [10] (λi wr=>∃j:Nat,j<=f.gM.length/\i=.int .i64 j/\Hid (Up y.kB j AR)/\Below d d wr) (λi _=>f.gM.length - (intOf i).toNat)
     case atStart=>exact⟨0,by omega,rfl,J (Up.zero _ _),(below_drewN oV _)⟩
     case round=>
      obtain⟨w8,rfl⟩:∃x,x=wr:=⟨_,rfl⟩
      obtain⟨j,hj,rfl,al,l⟩:=hrel;have lL:Hid (Below d d w8):=J l;have E8:Hid (Below v v w8):=J (M.trans (l.mono u));clear A T;clear C E F G;have A:=H.at l 5 rfl;have T:=H.at l 6 rfl;have C:=c.at l 0 rfl;have E:=c.at l 1 rfl;have F:=(c.l l).frozen 0;have G:=(c.l l).frozen 1;clear W;have W:=((aj l).1 _ (o+q) ad).trans Q0;by_cases aN:j<f.gM.length
      .obtain⟨b2,o2,t,rfl,Z,ht,v0,v1,v2,-⟩:=(HT.lw oT.ok l).xo (k:=j) (by omega);have HO:=J (NN w8 t.start t.jx t.jz);clear Z l;go_wp2_with fail
       refine HO.mono ?_;rintro e w9 ⟨b9,rfl,I7,ao⟩;have O:Below d d w9:=lL.trans (ao.mono lL.size);have gV:Hid (Below d d w9):=J O;have E9:Hid (Below v v w9):=J (M.trans (O.mono u));clear A T;clear C E F G;have A:=H.at O 5 rfl;have T:=H.at O 6 rfl;have C:=c.at O 0 rfl;have E:=c.at O 1 rfl;have F:=(c.l O).frozen 0;have G:=(c.l O).frozen 1;clear HO O ao;cases b9
       .clear I7;go_wp2_with fail
        exact bI rfl c gV K.size E9 _ _ rfl (λh=>absurd h (by decide))
       have dN:=J (al.snoc ht (I7 rfl));clear I7;go_wp2_with fail
       go_roundw
       case rel=>exact⟨j+1,by omega,by simp,dN,gV⟩
       case measure=>simp[intOf];omega
      obtain rfl:j=f.gM.length:=by omega
      have dN:=J (B.snoc V (⟨aa,λt ht=>al.xj aa t ht⟩:QY f.gM.length y));clear l;go_wp2_with fail
      go_roundw
      case rel=>exact⟨q+1,by omega,by simp,dN,lL⟩
      case measure=>simp[intOf];omega
    have aE:((y.kB.length:Int) !=(f.gM.length:Int))=true:=iP (by omega);go_wp2_with fail
    go_quiet (fail)
    go_wp2_with fail
    exact bI rfl c (below_drewN oV _) K.size (below_drewN E7 _) _ _ rfl (λh=>absurd h (by decide))
   obtain rfl:q=f.d'.length:=by omega
   have hg:P:=HP.mpr ⟨⟨by omega,HU⟩,by omega,λn hn=>B.all n hn⟩;clear p;go_wp2_with fail
   exact bI rfl c oV K.size E7 0 _ rfl (λ_=>hg)
theorem Bk.gr {w':World}(d:Bk w b t h)(c:w.grownBy w' (some m))(a:b≠m):Bk w' b t h:=(c.block b d.lt (λe=>a (Option.some.inj e))).trans d
theorem zy {c:World}{row:Option Nat}(h:w.grownBy W row)(k:W.grownBy c row):w.grownBy c row:=⟨k.os.trans h.os,k.tape.trans h.tape,k.output.trans h.output,nt h.size k.size,λi hi d=>(k.block i (mz hi h.size) d).trans (h.block i hi d)⟩
theorem PC (m i:Nat)(u:Value):v.grownBy (v.setCell (m,i) u) (some m):=aX (az (gD _ _) _) (.inl rfl) u
theorem Sl.gr {R:Rel α}(a:R.Ok){w':World}{k:List α}(h:Sl R b w (λj=>j<g) A k)(d:g<=w)(f:g<=m)(c:w.grownBy w' (some m)):Sl R b w' (λj=>j<g) A k:=h.keep a λj (i:j<g)=>c.block j (by omega) (λe=>by injection e with e;omega)
def KT (a:List hU):Prop:=∀g∈a,g.gi.length<=8/\∀p∈g.gi,In a.length p.z
def yW (d:List hU)(i t c:Nat)(m:List Bool)(w:World)(e:Ending)(w':World):Prop:=∃(b:Bool) (a:List Bool),e=.returned (.bool b)/\Found d i t m a b/\yz a<=yz m/\Bk w' c 4 (zk a).toArray/\w.grownBy w' (some c)
theorem L4 (m:List Bool)(p:Nat)(b:Bool):(zk m).toArray.setIfInBounds p (.bool b)=(zk (m.set p b)).toArray:=by simp[zk,List.map_set]
theorem Qt {m:List Bool}(h:Bk w a 4 (zk m).toArray){p:Nat}{b:Bool}(c:m[p]?=some b):w.cell? (a,p)=some (.bool b):=by rw[h.cell p,List.getElem?_toArray];exact VX _ _ _ c
theorem Y9 (f:iu)(A1 A2 A3 A4 A5 A6 A7 A8:Option Addr)(c1 c2 c3 c4 c5 c6 c7 c8:Nat)(Bd t:Nat)(hn:f.ga.length<=400)(hK:KT f.ga)(N:Nat):∀(w:World) (i l c:Nat) (m:List Bool),yz m<N->i<f.ga.length->m.length=f.ga.length->Bd<=l->Sl iA 9 w (λb=>b<Bd) A1 f.ga->Bk w l 4 (zk m).toArray->
  Calls Tryz.prog 78 #[.agg #[f.gt,A1 f.ga.length c1,A2 f.f6.length c2,A3 f.ge.length c3,A4 f.a'.length c4,A5 f.gM.length c5,A6 f.d'.length c6,A7 f.fY.length c7,A8 f.gP.length c8],i,t,.slice (l,0) f.ga.length c] w (yW f.ga i t l m w):=by
 induction N with
 |zero=>intro w i l c m h;omega
 |succ N IH=>
  intro w i l c m hN hi hm q X Y;have HI:=J IH;clear IH;have F:Bd<=w.heap.size:=pl (Nat.lt_of_le_of_lt q Y.lt);obtain⟨b,o,g,B3,d3,B4,d4,B5,d5,B6,d6,B7,d7,B8,d8,rfl,ao,hx,-,-,-,-,-,U,-,-,-,-,-,-,s5,-⟩:=X.z (k:=i) hi;have Ei:=J U;have KL:=J s5;have HS:=J X;have Z:=J Y;obtain⟨ED,aa⟩:=hK g (kj hx);have ab:Hid (L8 f.ga i=g.gi.map (·.z)):=J (by unfold L8;rw[hx.out]);obtain⟨Wf,G,s,bV⟩:=aO w 32 #[f.gt,.slice (some ⟨b,o,none⟩) f.ga.length c1,A2 f.f6.length c2,A3 f.ge.length c3,A4 f.a'.length c4,A5 f.gM.length c5,A6 f.d'.length c6,A7 f.fY.length c7,A8 f.gP.length c8];have bH:Hid (Below w w Wf):=J s;have kK:=J bV;have H:l≠w.heap.size:=λe=>by have:=Z.lt;omega
  have ap:l<w.heap.size:=Z.lt;clear X Y U s5 s bV;obtain⟨P,V⟩:∃P:Ending->World->Prop,Hid (P=yW f.ga i t l m w):=⟨_,rfl⟩
  rw[<-V.out];go_enter Tryz.func78,Tryz.ntmps78
  go_wp2_with fail
  try rw[G]
  try clear G
  go_loopw [9] (λi9 wr=>∃(k:Nat) (n:List Bool),k<=g.gi.length/\i9=.int .i64 k/\Hid (qZ f.ga ((g.gi.map (·.z)).take k) t m n/\yz n<=yz m/\Bk wr l 4 (zk n).toArray/\Wf.grownBy wr (some l))) (λi9 _=>g.gi.length - (intOf i9).toNat)
  case atStart=>exact⟨0,m,by omega,rfl,J ⟨by simpa using qZ.start _ _ _,ae _,Z.l bH,az (gD _ _) _⟩⟩
  case round=>
   obtain⟨E,rfl⟩:∃x,x=wr:=⟨_,rfl⟩
   obtain⟨k,n,hk,rfl,d⟩:=hrel;have u:=d.2.2.2;have I:Hid (w.grownBy E (some l)):=J (zy (az bH _) u);have VL:=J (kK.gr u (λe=>H e.symm));have k1:=VL.cell 1;have U:E.cell? ⟨b,o+i*9+5,none⟩=some (B5 g.gi.length d5):=by rw[World.cell?_of_block (a:=⟨b,o+i*9+5,none⟩) (I.out.block b (by omega) (λe=>by injection e with e;omega))];exact Ei
   have v:=KL.gr lS.ok F q I;clear u;by_cases ac:k<g.gi.length
   .obtain⟨b2,o2,x,rfl,ad,y,v0,-⟩:=v.part ac;have z:=aa x (kj y);obtain⟨p,av⟩:∃p:Nat,x.z=p:=⟨x.z.toNat,by have:=z.1;omega⟩
    rw[av]at v0;have ak:p<f.ga.length:=by have:=z.2;omega
    have K:Hid ((g.gi.map (·.z)).take (k+1)=(g.gi.map (·.z)).take k++[(p:Int)]):=J (by
     rw[pm,po,y.out,<-av];rfl)
    have A:n.length=f.ga.length:=by rw[d.out.1.len,hm]
    clear v ad y z;by_cases B:p=t
    .subst B;go_wp2_with fail
     rw[V.out];exact⟨true,n,rfl,⟨d.1.len,d.1.stay,(λe=>by cases e),λe=>by cases e⟩,d.2.1,d.2.2.1,I⟩
    have e0:((p:Int)==(t:Int))=false:=by simp;omega
    have n0:(0:Int)<=(p:Int):=by omega
    have n1:(p:Int)<(f.ga.length:Int):=by omega
    obtain⟨mb,C⟩:∃mb,n[p]?=some mb:=⟨_,jO (by omega)⟩
    have u0:=Qt d.2.2.1 C;have uz:=d.2.2.1.frozen p;have L:=J C;clear C;cases mb
    .have D:Bk (E.setCell ⟨l,p,none⟩ (.bool true)) l 4 (zk (n.set p true)).toArray:=by
      have:=d.2.2.1.set p (.bool true)
      rwa [L4]at this
     obtain⟨M,r⟩:∃M,E.setCell ⟨l,p,none⟩ (.bool true)=M:=⟨_,rfl⟩
     have W:E.grownBy M (some l):=r ▸ PC E l p _;rw[r]at D;have Ak:=J D;have Ai:=J W;have O:Hid (w.grownBy M (some l)):=J (zy I W);have al:=J (VL.gr W (λe=>H e.symm));obtain⟨r0,r1,r2,r3,r4,r5,r6,r7,r8⟩:=nine al (gD _ _);have aq:=KM L;have HO:=J (HI M p l c (n.set p true) (by have:=d.2.1;omega) ak (by rw[vN];exact A) q (HS.gr iA.ok F q O) Ak);clear D W;go_wp2_with fail
     try rw[r]
     clear r;refine HO.mono ?_;rintro e w7 ⟨b7,m7,rfl,Q,ar,R,LY⟩;have Ee:=J Q;have xE:=J R;have VK:=J LY;clear Q R LY HO r0 r1 r2 r3 r4 r5 r6 r7 r8 U k1 u0 uz v0;have S:yz m7<=yz m:=by have:=d.2.1;omega
     cases b7
     .go_wp2_with fail
      go_roundw
      case rel=>exact⟨k+1,m7,by omega,by simp,J ⟨by rw[K.out];exact d.1.search B (by omega) Ee,S,xE,zy d.2.2.2 (zy Ai VK)⟩⟩
      case measure=>simp[intOf];omega
     go_wp2_with fail
     rw[V.out];refine⟨true,m7,rfl,⟨?_,λj hj=>Ee.stay j ?_,(λe=>by cases e),λe=>by cases e⟩,S,xE,zy O VK⟩
     .rw[Ee.out.len,vN,d.out.1.len]
     have:=d.1.stay j hj;unfold qA at this ⊢;rw[xF];split
     .rename_i e;subst e;simp;omega
     exact this
    go_wp2_with fail
    go_roundw
    case rel=>exact⟨k+1,n,by omega,by simp,J ⟨by rw[K.out];exact d.1.xT B L,d.2.1,d.2.2.1,d.2.2.2⟩⟩
    case measure=>simp[intOf];omega
   obtain rfl:k=g.gi.length:=by omega
   clear v;go_wp2_with fail
   rw[V.out];have T:=d.1;rw[oY (by simp)]at T;exact⟨false,n,rfl,⟨T.len,T.stay,λ_ p av=>T.own p (by unfold Em at av;rwa [ab.out]at av),λ_=>T.new⟩,d.2.1,d.2.2.1,I⟩
def AP (w:World)(e:Ending)(w':World):Prop:=∃s:Int,e=.returned (.int .i64 s)/\Below w w w'
theorem Je {y:List hU}(h:Sl iA 9 w (Lw w) A y)(hi:b<y.length):∃i o g B d x c3,A=some ⟨i,o,none⟩/\i<w/\y[b]?=some g/\w.cell? ⟨i,o+b*9+3,none⟩=some (.slice x g.gk.length c3)/\w.cell? ⟨i,o+b*9+5,none⟩=some (.slice B g.gi.length d)/\Sl lS 3 w (Lw w) B g.gi:=by obtain⟨i,o,g,x,c3,n,p,a,c,q,r,s,t,u,v,e,f,j,-,-,-,k,-,l,-,-,-,-,-,-,m,-⟩:=h.z hi;exact⟨i,o,g,a,c,x,c3,e,f,j,k,l,m⟩
theorem Lx (f:iu)(A1 A2 A3 A4 A5 F G H:Option Addr)(c1 c2 c3 c4 c5 I ad K:Nat)(r:Nat->Nat)(hn:f.ga.length<=400)(hP:∀g∈f.ga,ip g.gk.length)(hK:KT f.ga)(hr:∀i p,p<f.ga.length->Em f.ga i p->r p<r i)(N:Nat):∀(w:World) (i:Nat),r i<N->i<f.ga.length->Sl iA 9 w (Lw w) A1 f.ga->
  Calls Tryz.prog 80 #[.agg #[f.gt,A1 f.ga.length c1,A2 f.f6.length c2,A3 f.ge.length c3,A4 f.a'.length c4,A5 f.gM.length c5,F f.d'.length I,G f.fY.length ad,H f.gP.length K],.int .i64 i] w (AP w):=by
 induction N with
 |zero=>intro w i h;omega
 |succ N Z=>
  intro w i hN hi L;have HI:=J Z;clear Z;have M:Hid (Sl iA 9 w (Lw w) A1 f.ga):=J L;obtain⟨b,o,g,B,d,Z3,t3,rfl,j,O,q3,Q,s5⟩:=Je L hi;have R:=J Q;have KL:=J s5;have HX:=J O;obtain⟨ED,S⟩:=hK g (kj O);obtain⟨l,v,m,T⟩:=aO w 32 #[f.gt,.slice (b,o) f.ga.length c1,A2 f.f6.length c2,A3 f.ge.length c3,A4 f.a'.length c4,A5 f.gM.length c5,F f.d'.length I,G f.fY.length ad,H f.gP.length K];have bH:Hid (Below w w l):=J m;have U:=J T;have k1:=T.cell 1;have u3:=((aj m).1 _ (o+i*9+3) j).trans q3;have AU:=m.size;clear L q3 Q s5 O m T;obtain⟨P,HP⟩:∃P:Ending->World->Prop,Hid (P=AP w):=⟨_,rfl⟩
  rw[<-HP.out];have i0:(0:Int)<=(i:Int):=by omega
  have i1:(i:Int)<(f.ga.length:Int):=by omega
  go_enter Tryz.func80,Tryz.ntmps80
  go_wp2_with fail
  try rw[v]
  try clear v
  clear k1 u3;go_loopw [5,6] (λsv V wr=>∃(k:Nat) (s:Int),k<=g.gi.length/\V=.int .i64 k/\sv=.int .i64 s/\Below l l wr) (λ_ V _=>g.gi.length - (intOf V).toNat)
  case atStart=>exact⟨0,_,by omega,rfl,rfl,gD _ _⟩
  case round=>
   obtain⟨y,rfl⟩:∃x,x=wr:=⟨_,rfl⟩
   obtain⟨k,s,hk,rfl,rfl,a⟩:=hrel;have W:Hid (Below w w y):=J (bH.trans (a.mono AU));have k1:=U.at a 1 rfl;have Q:=((aj W).1 _ (o+i*9+5) j).trans R;by_cases X:k<g.gi.length
   .obtain⟨b2,D,x,rfl,z,n,E,-⟩:=KL.part X;have q:=S x (kj n);obtain⟨p,hp⟩:∃p:Nat,x.z=p:=⟨x.z.toNat,by have:=q.1;omega⟩
    rw[hp]at E;have V0:=J E;have A:p<f.ga.length:=by have:=q.2;omega
    have aa:=hr i p A (show(p:Int)∈L8 f.ga i by unfold L8;rw[HX.out];exact mN.2 ⟨x,kj n,hp⟩);have t:Below l l y.drew:=a.drew;have u:Hid (Below w w y.drew):=J W.drew;have S5:=And.intro (nine U t) (And.intro (((aj u).1 _ (o+i*9+5) j).trans R) (((aj u).1 _ (D+k*3) z).trans E));have HO:=J (HI y.drew p (by omega) A (M.lw iA.ok u));have yR:=J t;clear a t E q n;go_wp2_with fail
    go_region_held3 (λc=>(c.cell? (w,0)=some (.int .i64 f.gt)/\c.cell? (w,1)=some (.slice (b,o) f.ga.length c1)/\c.cell? (w,2)=some (A2 f.f6.length c2)/\c.cell? (w,3)=some (A3 f.ge.length c3)/\c.cell? (w,4)=some (A4 f.a'.length c4)/\c.cell? (w,5)=some (A5 f.gM.length c5)/\c.cell? (w,6)=some (F f.d'.length I)/\c.cell? (w,7)=some (G f.fY.length ad)/\c.cell? (w,8)=some (H f.gP.length K))/\c.cell? ⟨b,o+i*9+5,none⟩=some (.slice (b2,D) g.gi.length d)/\c.cell? (b2,D+k*3)=some (.int .i64 p))
     (first
      |with_reducible exact S5
      |with_reducible exact S6)
     (first
      |(go_at_call 80;refine HO.mono ?_;rintro e w6 ⟨s6,rfl,C⟩;have Y:Hid (Below l l w6):=J (yR.trans (C.mono yR.size));have E6:Hid (Below w w w6):=J (bH.trans (Y.mono AU));have S6:=And.intro (nine U Y) (And.intro (((aj E6).1 _ (o+i*9+5) j).trans R) (((aj E6).1 _ (D+k*3) z).trans V0));clear C)
      |fail "no arm")
    clear S5 S6 HO;go_wp2_with fail
    go_roundw
    case rel=>exact⟨k+1,_,by omega,by simp,rfl,Y⟩
    case measure=>simp[intOf];omega
   obtain rfl:k=g.gi.length:=by omega
   clear a;go_wp2_with fail
   rw[HP.out];exact⟨s,rfl,W⟩
theorem Uv:(Tryz.prog.info? 3).map (λi=>(i.zero,i.size,i.bytes))=some (some (.int .i64 0),1,8):=by kernel_rfl
theorem Qr (n:Nat)(i:n<=100000)(w:World):(Instr.makeSlice 22 (.int .i64 (n:Int)) (.int .i64 (n:Int))).run Tryz.prog w=.ok (.slice (w,0) n n) (w.alloc (.cells (aC (List.replicate n 0)).toArray 3)):=by
 obtain⟨g,a,b,c,d⟩:=info_parts Uv;have f:=run_make (P:=Tryz.prog) w 22 3 g _ Tryz.underlying22 a b .i64 .i64 n n (by omega) (by omega) (by rw[d];omega) (by omega);simp only[Int.toNat_natCast]at f;rw[c]at f;rw[f];have e:madeCells (Value.int .i64 0).cells (n*1)=(aC (List.replicate n 0)).toArray:=by have h:=toList_madeCells_one (.int .i64 0) (n*1);apply Array.toList_inj.1;rw[show(Value.int .i64 0).cells=#[.int .i64 0]from rfl,h,Nat.mul_one];simp[aC,cI]
 rw[e]
theorem L5 (m:List Int)(p:Nat)(z:Int):(aC m).toArray.setIfInBounds p (.int .i64 z)=(aC (m.set p z)).toArray:=by simp[aC,cI,List.map_set]
theorem Ri (h:Bk w a 3 (aC l).toArray){p:Nat}(b:l[p]?=some y):w.cell? (a,p)=some (.int .i64 y):=by rw[h.cell p,List.getElem?_toArray];exact Nj _ _ _ b
def AN (n:Nat)(w:World)(e:Ending)(w':World):Prop:=∃(a:Nat) (b:List Int),e=.returned (.slice (a,0) n n)/\b.length=n/\w.heap.size<=a/\Bk w' a 3 (aC b).toArray/\Below w w w'
theorem Gk (f:iu)(A1 A2 A3 A4 A5 S T U:Option Addr)(c1 c2 c3 c4 c5 W X Y:Nat)(hn:f.ga.length<=400)(hK:KT f.ga)(Z:Sl iA 9 v (Lw v) A1 f.ga):Calls Tryz.prog 79 #[.agg #[f.gt,A1 f.ga.length c1,A2 f.f6.length c2,A3 f.ge.length c3,A4 f.a'.length c4,A5 f.gM.length c5,S f.d'.length W,T f.fY.length X,U f.gP.length Y]] v (AN f.ga.length v):=by
 have HG:=J Z;have C:=hK;obtain⟨a,D,j,E⟩:=aO v 32 #[f.gt,A1 f.ga.length c1,A2 f.f6.length c2,A3 f.ge.length c3,A4 f.a'.length c4,A5 f.gM.length c5,S f.d'.length W,T f.fY.length X,U f.gP.length Y];have F:Hid (Below v v a):=J j;have G:=J E;have w:=j.size;have m:=E.cell 1;have H:=Qr f.ga.length (by omega) a;clear Z j E;obtain⟨P,HP⟩:∃P:Ending->World->Prop,Hid (P=AN f.ga.length v):=⟨_,rfl⟩
 rw[<-HP.out];go_enter Tryz.func79,Tryz.ntmps79
 go_wp2_with fail
 try clear D
 try clear H
 go_loopw [4] (λc wr=>∃(q:Nat) (h:List Int),q<=f.ga.length/\c=.int .i64 q/\Hid (h.length=f.ga.length/\Bk wr a.heap.size 3 (aC h).toArray/\Below a a wr)) (λc _=>f.ga.length - (intOf c).toNat)
 case atStart=>exact⟨0,List.replicate f.ga.length 0,by omega,rfl,J ⟨by simp,Bk.new _ _ _,(gD _ _).alloc (ae _) _⟩⟩
 case round=>
  clear m;obtain⟨w5,rfl⟩:∃x,x=wr:=⟨_,rfl⟩
  obtain⟨q,z5,hq,rfl,n⟩:=hrel;have VL:=J (G.l n.2.2);have E5:Hid (Below v v w5):=J (F.trans (n.2.2.mono w));have m:=VL.cell 1;by_cases BO:q<f.ga.length
  .go_wp2_with fail
   go_loopw [5] (λc wr=>∃(i:Nat) (h:List Int),i<=f.ga.length/\c=.int .i64 i/\Hid (h.length=f.ga.length/\Bk wr a.heap.size 3 (aC h).toArray/\Below a a wr)) (λc _=>f.ga.length - (intOf c).toNat)
   case atStart=>exact⟨0,z5,by omega,rfl,n⟩
   case round=>
    clear m;obtain⟨w6,rfl⟩:∃x,x=wr:=⟨_,rfl⟩
    obtain⟨i,z6,hi,rfl,A⟩:=hrel;have I:=J (G.l A.2.2);have E6:Hid (Below v v w6):=J (F.trans (A.2.2.mono w));have m:=I.cell 1;by_cases ad:i<f.ga.length
    .obtain⟨b,o,g,B,d,Z3,t3,rfl,r,hx,q3,s,s5⟩:=Je HG ad;have Ei:=J s;have KL:=J s5;obtain⟨ED,K⟩:=C g (kj hx);clear q3 s s5;have s:=((aj E6).1 _ (o+i*9+5) r).trans Ei;go_wp2_with fail
     go_loopw [6] (λc wr=>∃(k:Nat) (h:List Int),k<=g.gi.length/\c=.int .i64 k/\Hid (h.length=f.ga.length/\Bk wr a.heap.size 3 (aC h).toArray/\Below a a wr)) (λc _=>g.gi.length - (intOf c).toNat)
     case atStart=>exact⟨0,z6,by omega,rfl,A⟩
     case round=>
      clear m s;obtain⟨w7,rfl⟩:∃x,x=wr:=⟨_,rfl⟩
      obtain⟨k,t,hk,rfl,e⟩:=hrel;have L:=J (G.l e.2.2);have E7:Hid (Below v v w7):=J (F.trans (e.2.2.mono w));have m:=L.cell 1;have s:=((aj E7).1 _ (o+i*9+5) r).trans Ei;by_cases M:k<g.gi.length
      .obtain⟨b2,o2,x,rfl,N,u,O,-⟩:=KL.part M;have l:=K x (kj u);obtain⟨p,hp⟩:∃p:Nat,x.z=p:=⟨x.z.toNat,by have:=l.1;omega⟩
       rw[hp]at O;have aa:p<f.ga.length:=by have:=l.2;omega
       have n0:(0:Int)<=(p:Int):=by omega
       have n1:(p:Int)<(f.ga.length:Int):=by omega
       have n2:(0:Int)<=(i:Int):=by omega
       have n3:(i:Int)<(f.ga.length:Int):=by omega
       have Q:=e.1;obtain⟨z,hz⟩:∃z,t[i]?=some z:=⟨_,jO (by omega)⟩
       obtain⟨y,hy⟩:∃y,t[p]?=some y:=⟨_,jO (by omega)⟩
       have fz:=e.2.1.frozen i;have O:=((aj E7).1 _ (o2+k*3) N).trans O;have u0:=Ri e.2.1 hz;have u1:=Ri e.2.1 hy;clear l u hz hy;go_wp2_with fail
       go_region
       have R:∀V,Bk (w7.setCell (a,i) (.int .i64 V)).drew a.heap.size 3 (aC (t.set i V)).toArray:=λV=>by
        have:=e.2.1.set i (.int .i64 V)
        rwa [L5]at this
       go_wp2_with fail
       go_roundw
       case rel=>exact⟨k+1,t.set i _,by omega,by simp,J ⟨by rw[vN];exact Q,R _,(e.2.2.setCell (ae _) _).drew⟩⟩
       case measure=>simp[intOf];omega
      obtain rfl:k=g.gi.length:=by omega
      go_wp2_with fail
      go_roundw
      case rel=>exact⟨i+1,t,by omega,by simp,e⟩
      case measure=>simp[intOf];omega
    obtain rfl:i=f.ga.length:=by omega
    go_wp2_with fail
    go_roundw
    case rel=>exact⟨q+1,z6,by omega,by simp,A⟩
    case measure=>simp[intOf];omega
  obtain rfl:q=f.ga.length:=by omega
  go_wp2_with fail
  rw[HP.out];exact⟨a.heap.size,z5,rfl,n.1,w,n.2.1,E5⟩
def AS:Except (Int×Int) iu->Int×Int
 | .ok _=>(0,0)
 | .error x=>x
theorem vL.nine {r:Except (Int×Int) iu}{e:Ending}{w':World}(h:vL w r e w'):Below w w w'/\∃(u:Int) (A C D E F a b c:Option Addr) (m n o p q s t v c1 c2 c3 c4 c5 d g i:Nat) (j k:Int),
  e=.returned (.tuple #[.agg #[u,A m c1,C n c2,D o c3,E p c4,F q c5,a s d,b t g,c v i],j,k])/\j=(AS r).1/\k=(AS r).2:=by
 obtain⟨y,l⟩:=h;refine⟨y,?_⟩;cases r with
 |ok f=>obtain⟨z,rfl,A,c1,C,c2,D,c3,E,c4,F,c5,a,d,b,g,c,i,rfl,-⟩:=l;exact⟨_,_,_,_,_,_,_,_,_,_,_,_,_,_,_,_,_,_,_,_,_,_,_,_,_,0,0,rfl,rfl,rfl⟩
 |error x=>exact⟨0,none,none,none,none,none,none,none,none,0,0,0,0,0,0,0,0,0,0,0,0,0,0,0,0,x.1,x.2,l,rfl,rfl⟩
