/- Lemmas. -/
import Derived.Test.YtalehhjjbadlpaaGreatDoorX14
set_option linter.all false
set_option maxRecDepth 100000
set_option maxHeartbeats 32000000
namespace Go.Proofs.YtalehhjjbadlpaaGreatDoor
open Go.RowKit
section
attribute [-go_sem] Builtin.append_
def Qv (c:Call):List Value:=[.int .i64 c.iB,.int .i64 c.lookup]
def uG (l:List Call):List Value:=l.flatMap Qv
theorem Rk (w:World)(S:Bs)(p:List Call)(h:∀i∈p,gN i.iB/\gN i.lookup):Fl mo 2 w S (uG p) p:=wG w S Qv p (λ_ _=>rfl) (λx a=>⟨rfl,h x a⟩)
theorem Sl.BE {w:World}{S:Bs}{b o:Nat}{i:List Int}(h:Sl gS 1 w S (b,o) i){k:Nat}(a:k<i.length):∃x,w.cell? (b,o+k)=some (.int .i64 x)/\i[k]?=some x:=by obtain⟨f,g,x,e,-,c,d,-⟩:=h.int a;simp only[n',Addr.mk.injEq,and_true]at e;obtain⟨rfl,rfl⟩:=e;exact⟨x,d,c⟩
theorem Zj (w:World)(m:Nat)(fs:Nat->Value)(lp:Int)(G:Nat)(Ag:Option Addr)(cg:Nat)(Ac:Option Addr)(cc:Nat)(h:Mk w m fs lp)(hf:fs 1= Ag G cg)(h1:1<=G)(hG:G<=1000)(Z:List Int)(bd br:Nat)(hc:Sl gS 1 w (TR [aK] bd br w) Ac Z)(bE:m<bd)(hN:∀x∈Z,N9 x)(bF:Z.length<=1000):Calls Tryz.prog 76 #[.pointer (m,0),.int .i64 4,Ac Z.length cc] w (ng w m fs lp G 4):=by
 have HC:=J hc;have HN:=J hN;clear hc hN;have l:=h.lt;have qg:w.cell? (m,3)=some (Ag G cg):=by have:=h.cells.1 1 (by omega);rw[hf]at this;exact this
 have H:=J h;have HF:=J hf;clear h hf;go_enter Tryz.func76,Tryz.ntmps76
 go_wp2_with fail
 obtain⟨W0,ac⟩:∃W0,(w.alloc (.cells gU dD)).alloc (.cells gU dD)=W0:=⟨_,rfl⟩
 have HR:Hid (RS w m fs lp gU W0):=by rw[<-ac];exact J (RS.begin H.out)
 have z0:W0.heap.size=w.heap.size+2:=by rw[<-ac];simp
 unfold gU at ac;rw[ac];clear ac qg;refine(uj W0 m fs lp G Ag cg HR.out.b HF.out h1 hG).mono ?_;rintro e F ⟨s,S,cs,hs,bH,rfl,bf,bg,aN⟩;have ad:=J (HR.out.next bg aN);have xy:=J (il.of gS.ok bf);have HS:=J hs;have z1:=aN.size;have x1:F.cell? (w.heap.size+1,1)=some (.slice none 0 0):=ad.out.cell 1;have y1:=ad.out.var.frozen 1;have zr:=ad.out.var.lt;clear bf bg aN HR hs;go_wp2_with fail
 obtain⟨W2,aQ⟩:∃W2,(F.setCell (w.heap.size+1,1) (.slice (F,0) 1 1)).alloc (.cells #[S s.length cs] kl)=W2:=⟨_,rfl⟩
 rw[aQ];obtain⟨bh,bj,bk,z2⟩:=ad.out.tD l xy.out (by omega) (by omega) aQ;have aL:=J bh;have F2:=J bj;have O2:=J bk;clear bh bj bk aQ x1 y1 ad xy;go_wp2_with fail
 refine(aA W2 m fs lp 2 aL.out.b (by omega) (by omega)).mono ?_;rintro e w3 ⟨y,hy,rfl,bK,t⟩;have qM:=aL.out.next bK t;have bl:=il.next gS.ok F2.out (by omega) t;have bm:=(Sp.next aL.out.b t).own O2.out (by decide);have z3:=t.size;have aa:=J qM;have F3:=J bl;have O3:=J bm;clear qM bl bm bK t aL F2 O2;by_cases y0:y=0
 .have e0:((y:Int)==0)=true:=by simp;omega
  clear y0;go_wp2_with fail
  refine(jg w3 m fs lp G Ag cg aa.out.b HF.out h1 hG).mono ?_;rintro e w4 ⟨a,C,D,hB,rfl,bn,T,v⟩;have u:=J (aa.out.next T v);have F4:=J (il.next gS.ok F3.out (by omega) v);have O4:=J ((Sp.next aa.out.b v).own O3.out (by decide));have zZ:=J (il.of gT.ok bn);have z4:=v.size;have x4:w4.cell? (w.heap.size+1,0)=some (.slice none 0 0):=u.out.cell 0;have y4:=u.out.var.frozen 0;clear bn T v aa F3 O3;go_wp2_with fail
  obtain⟨W5,oz⟩:∃W5,w4.setCell (w.heap.size+1,0) (C a.length D)=W5:=⟨_,rfl⟩
  have uQ:=u.out.put l 0 (C a.length D);have pI:=il.put gS.ok F4.out (g:=w.heap.size+1) (.inl (by omega)) 0 (C a.length D);have uK:=il.put gT.ok zZ.out (g:=w.heap.size+1) (.inl (by omega)) 0 (C a.length D);have uN:=(Sp.set (m:=m) u.out.var (by omega) 0 (C a.length D)).own O4.out (by decide);have z5:W5.heap.size=w4.heap.size:=by rw[<-oz];simp
  rw[oz]at uQ pI uK uN ⊢;have oZ:=J uQ;have F5:=J pI;have Ad:=J uK;have O5:=J uN;clear uQ pI uK uN oz u F4 O4 zZ x4 y4;refine(jg W5 m fs lp G Ag cg oZ.out.b HF.out h1 hG).mono ?_;rintro e w6 ⟨ahead,z,B,hA,rfl,bo,xO,ab⟩;have kU:=J (oZ.out.next xO ab);have F6:=J (il.next gS.ok F5.out (by omega) ab);have Ae:=J (il.next gT.ok Ad.out (by omega) ab);have O6:=J ((Sp.next oZ.out.b ab).own O5.out (by decide));have zY:=J (il.of gT.ok bo);have z6:=ab.size;have x6:w6.cell? (w.heap.size+1,2)=some (.slice none 0 0):=kU.out.cell 2;have y6:=kU.out.var.frozen 2;clear bo xO ab oZ F5 O5 Ad;go_wp2_with fail
  obtain⟨P,iy⟩:∃P,w6.setCell (w.heap.size+1,2) (z ahead.length B)=P:=⟨_,rfl⟩
  have uS:=kU.out.put l 2 (z ahead.length B);have qC:=il.put gS.ok F6.out (g:=w.heap.size+1) (.inl (by omega)) 2 (z ahead.length B);have uM:=il.put gT.ok Ae.out (g:=w.heap.size+1) (.inl (by omega)) 2 (z ahead.length B);have uJ:=il.put gT.ok zY.out (g:=w.heap.size+1) (.inl (by omega)) 2 (z ahead.length B);have uO:=(Sp.set (m:=m) kU.out.var (by omega) 2 (z ahead.length B)).own O6.out (by decide);have z7:P.heap.size=w6.heap.size:=by rw[<-iy];simp
  rw[iy]at uS qC uM uJ uO ⊢;have aM:∃(a:List (List Int)) (C:Option Addr) (D:Nat) (ahead:List (List Int)) (z:Option Addr) (B:Nat) (bP I bM bs:Nat),RB w m fs lp P.heap.size W0.heap.size F.heap.size S s (.slice (F,0) 1 1) 1 [S s.length cs] bP I C D a bM bs z B ahead (.slice none 0 0) (.slice none 0 0) P/\li G 2 a/\li G 2 ahead/\(F.heap.size<bP\/I<=F)/\(F.heap.size<bM\/bs<=F):=⟨a,C,D,ahead,z,B,w3.heap.size,w4.heap.size,W5.heap.size,w6.heap.size,⟨uS,qC,uO,uM,uJ,by omega,by omega,by omega,by omega,by omega,by omega,by omega,ae _⟩,hB,hA,.inl (by omega),.inl (by omega)⟩
  have bp:F.heap.size+1<=P.heap.size:=by omega
  clear uS qC uM uJ uO iy kU F6 Ae O6 zY x6 y6 hB hA z3 z4 z5 z6 z7;obtain⟨a,C,D,ahead,z,B,bP,I,bM,bs,ak,hB,hA,aR,a0⟩:=aM;have HX:=J ak;have eX:=J hB;have uu:=J hA;clear ak hB hA;have x1:P.cell? (w.heap.size+1,1)=some (.slice (F,0) 1 1):=HX.out.rs.cell 1;have jP:w.heap.size+1≠m:=by omega
  have dh:True:=trivial
  first|(go_region_with (go_at_call 119;have _t:=dh;refine(jg _ m fs lp G Ag cg (by exact HX.out.rs.b) HF.out h1 hG).mono ?_;rintro e wq ⟨q,Aq,cq,hq,rfl,BO,FK,Q⟩;have UR:=dW Q jP x1;have yU:=HX.out.drew.next l FK Q;have zq:=Q.size;obtain⟨N,O,w9,f,K,x9,y9,h9⟩:=yU.app (cq:=cq) l ⟨ae _,aR,a0⟩ (il.of gT.ok BO) (show F.heap.size<P.heap.size by omega) (ae _) (show w.heap.size+2<=P.heap.size by omega) (by have:=hq.i;omega);have U:=J h9;have HQ:=J hq;clear _t dh yU h9 FK Q BO hq))|fail
  all_goals
   obtain⟨Wy,Fh⟩:∃Wy,w9.setCell (w.heap.size+1,1) (N (1+q.length) O)=Wy:=⟨_,rfl⟩
   rw[Fh]at U ⊢;clear Fh K x9 y9 UR x1;have a1:∃lN mJ,Hid (RQ w m fs lp w9.heap.size W0.heap.size F.heap.size S s (N (1+q.length) O) (1+q.length) ([S s.length cs]++f) bP I C D a bM bs z B ahead (.slice none 0 0) (.slice none 0 0) lN mJ f q Wy):=⟨_,_,U⟩
   clear U;obtain⟨lN,mJ,U⟩:=a1;have a2:=U.out.rb.g.2.2.2.2.2.2.2;go_wp2_with fail
   refine(aA Wy m fs lp 3 U.out.rb.rs.b (by omega) (by omega)).mono ?_;rintro e Wl ⟨kk,bw,rfl,al,V⟩;have UU:=V.size;have HX:=J ((U.out.next l al V).rn (nt a2 UU) (ae _));have bx:=HQ.out.i;clear al V U;go_wp2_with fail
   go_loopw [13] (λi wr=>∃(k:Nat) (E:List Call) (A:Option Addr) (c:Nat),k<=kk/\i=.int .i64 k/\E.length=k/\wr.ownsRow Wl.heap.size xh 2 (A k c) k (uG E)/\Hid (∀c∈E,In (1+q.length) c.iB/\c.lookup∈Z)/\Hid (RQ w m fs lp Wl.heap.size W0.heap.size F.heap.size S s (N (1+q.length) O) (1+q.length) ([S s.length cs]++f) bP I C D a bM bs z B ahead (.slice none 0 0) (A k c) lN mJ f q wr)) (λi _=>kk - (intOf i).toNat)
   case atStart=>exact⟨0,[],none,0,nz _,rfl,rfl,World.ownsRow_nil _ _ _ _,J (by simp),HX⟩
   case round=>
    obtain⟨p,rfl⟩:∃x,x=wr:=⟨_,rfl⟩
    obtain⟨k,E,A,c,hk,rfl,ao,ho,L,d⟩:=hrel;have HO:=J ho;have ZU:=J ao;clear ho ao;by_cases a3:k<kk/\0<Z.length
    .obtain⟨a4,ap⟩:=a3;obtain⟨bc,oc,rfl⟩:∃bc oc,Ac=some ⟨bc,oc,none⟩:=by obtain⟨b,o,-,e,-⟩:=HC.out.int ap;exact⟨b,o,e⟩
     have x4:p.cell? (w.heap.size+1,4)=some (A k c):=d.out.rb.rs.cell 4;have x1:p.cell? (w.heap.size+1,1)=some (N (1+q.length) O):=d.out.rb.rs.cell 1;have jP:w.heap.size+1≠m:=by omega
     go_wp2_with fail
     have dh:True:=trivial;have oG:True:=trivial
     first|(go_region_with (first
      |(go_at_call 29;have _t:=dh;refine(aA _ m fs lp (1+q.length) (by exact d.out.rb.rs.b) (by omega) (by omega)).mono ?_;rintro e w3 ⟨x,hx,rfl,bK,t⟩;have aq:=dW t jP x4;have a5:=dW t jP x1;clear _t dh)
      |(go_at_call 29;have _t:=oG;refine(aA _ m fs lp Z.length (by exact bK) (by omega) (by omega)).mono ?_;rintro e w4 ⟨y,hy,rfl,T,v⟩;have a6:=dW v jP aq;have u:=(d.out.drew.next l bK t).next l T v;have bA:=u.rb.rs.var.lt;have a7:=u.rb.g.2.2.2.2.2.2.2;obtain⟨vv,bB,ar⟩:=(il.row gS.ok HC.out u.rb.rs.j (λx hx=>by injection hx with hx;exact .inl (by omega))).BE hy;have a8:=J ar;have o4:=(Sp.next bK v).own ((Sp.next d.out.drew.rb.rs.b t).own (show p.drew.ownsRow Wl.heap.size xh 2 (A k c) k (uG E)from HO.out) (by decide)) (by decide);obtain⟨A6,c6,w8,K,x9,y9,aW,h9⟩:=u.more l RH (by decide) (by decide) (by decide) (j:=4) (ae _) a7 rfl o4 #[.int .i64 x,vv] rfl (by simp[Value.oneCell']) (by omega);have mf:=J aW;have jl:=J h9;clear _t oG u o4 aW h9 bK t T v ar)))|fail
     all_goals
      have rJ:=J (jl.out.vD l (A6 (k+1) c6));have av:(w8.setCell (w.heap.size+1,4) (A6 (k+1) c6)).ownsRow Wl.heap.size xh 2 (A6 (k+1) c6) (k+1) (uG (E++[⟨(x:Int),vv⟩])):=by have:=(Sp.set (m:=m) jl.out.rb.rs.var (by omega) 4 (A6 (k+1) c6)).own mf.out (by decide);simpa [uG,Qv]using this
      have aw:Hid (∀c∈E++[(⟨(x:Int),vv⟩:Call)],In (1+q.length) c.iB/\c.lookup∈Z):=J (λn hn=>by
       rw[jp,js]at hn;rcases hn with hn|rfl
       .exact L.out n hn
       exact⟨⟨show(0:Int)<=(x:Int) by omega,show(x:Int)<((1+q.length:Nat):Int) by omega⟩,kj a8.out⟩)
      have ay:(E++[(⟨(x:Int),vv⟩:Call)]).length=k+1:=by rw[la,ZU.out];rfl
      have vO:=J av;have a9:=J ay;clear av ay K x9 y9 jl mf aq a6 a5;go_wp2_with fail
      go_roundw
      case rel=>exact⟨k+1,E++[⟨(x:Int),vv⟩],A6,c6,by omega,by simp,a9.out,vO.out,aw,rJ⟩
      case measure=>simp[intOf];omega
    have v0:p.cell? (w.heap.size+1,0)=some (C a.length D):=d.out.rb.rs.cell 0;have v1:p.cell? (w.heap.size+1,1)=some (N (1+q.length) O):=d.out.rb.rs.cell 1;have v2:p.cell? (w.heap.size+1,2)=some (z ahead.length B):=d.out.rb.rs.cell 2;have v3:p.cell? (w.heap.size+1,3)=some (.slice none 0 0):=d.out.rb.rs.cell 3;have v4:p.cell? (w.heap.size+1,4)=some (A k c):=d.out.rb.rs.cell 4;have v5:p.cell? (w.heap.size+1,5)=some (.int .i64 0):=d.out.rb.rs.cell 5;have r0:p.cell? (w,0)=some (.slice none 0 0):=d.out.rb.rs.c.cell 0;have r1:p.cell? (w,1)=some (.slice none 0 0):=d.out.rb.rs.c.cell 1;have r2:p.cell? (w,2)=some (.slice none 0 0):=d.out.rb.rs.c.cell 2;have r3:p.cell? (w,3)=some (.slice none 0 0):=d.out.rb.rs.c.cell 3;have r4:p.cell? (w,4)=some (.slice none 0 0):=d.out.rb.rs.c.cell 4;have r5:p.cell? (w,5)=some (.int .i64 0):=d.out.rb.rs.c.cell 5;have f0:=d.out.rb.rs.c.frozen 0;have f1:=d.out.rb.rs.c.frozen 1;have f2:=d.out.rb.rs.c.frozen 2;have f3:=d.out.rb.rs.c.frozen 3;have f4:=d.out.rb.rs.c.frozen 4;have f5:=d.out.rb.rs.c.frozen 5;obtain⟨b0,b1,b2,b3,b4,b5,b6,b7⟩:=d.out.rb.g;have bq:=d.out.bq;have W:=ZU.out;have X:([s]++q).length=1+q.length:=by simp;omega
    have aD:ng w m fs lp G 4 (.returned (.agg #[C a.length D,N (1+q.length) O,z ahead.length B,(),A k c,.int .i64 0])) (ML p w.heap.size (C a.length D) (N (1+q.length) O) (z ahead.length B) (.slice none 0 0) (A k c) (.int .i64 0))/\Bk (ML p w.heap.size (C a.length D) (N (1+q.length) O) (z ahead.length B) (.slice none 0 0) (A k c) (.int .i64 0)) w.heap.size dD #[C a.length D,N (1+q.length) O,z ahead.length B,(),A k c,.int .i64 0]:=by have hr:mu G 4 ⟨a,[s]++q,ahead,[],E,0⟩:=mu.mk' (eX.out.mono (by omega)) ((li.one HS.out).app HQ.out) (uu.out.mono (by omega)) (by simp) ⟨λc hc=>⟨by have:=(L.out c hc).1;unfold In at this;unfold N9;omega,HN.out _ (L.out c hc).2⟩,show E.length<=2 by omega⟩ (show N9 0 from by unfold N9;omega) (λh=>absurd h (by decide)) (λ_=>rfl) (λh=>absurd rfl h) (λ_=>rfl);have ba:Fl gT 1 p (TS jQ w.heap.size p) ([S s.length cs]++f) ([s]++q):=(Fl.one (R:=gT) ⟨S,cs,rfl,il.J gS.ok d.out.rb.set (by decide) (by omega)⟩ rfl).append (d.out.fq.mono gT.ok (TR.ts (by decide) (by omega)));have Y:=d.out.rb.rs;have SK:=d.out.rb.q;have aE:=HO.out;rw[<-X]at Y SK;rw[<-W]at Y aE;have M:=lu (G:=G) (gd:=4) (r:=⟨a,[s]++q,ahead,[],E,0⟩) (A0:=C) (A1:=N) (A2:=z) (A3:=none) (A4:=A) (c0:=D) (c1:=O) (c2:=B) (c3:=0) (c4:=c) Y l hr (show gN 0 from by unfold gN;omega) (il.J gT.ok d.out.rb.fb (by decide) (by omega)) (dV SK ba (by decide) (by omega) (by omega)) (il.J gT.ok d.out.rb.fa (by decide) (by omega)) Sl.nil (dV aE (Rk _ _ E (λc hc=>⟨by have:=(L.out c hc).1;unfold In at this;unfold gN;omega,by have:=HN.out _ (L.out c hc).2;unfold N9 at this;unfold gN;omega⟩)) (by decide) (by omega) (by omega));simp only[X,W]at M;exact⟨M.2,M.1⟩
    have KE:=J aD;clear aD W X bq b0 b1 b2 b3 b4 b5 b6 b7;rcases Nat.lt_or_ge k kk with a4|hge
    .have bb:Z.length=0:=by omega
     rw[bb];go_wp2_with fail
     exact bodyPost_ret (fA KE.out.2 rfl rfl) rfl KE.out.1
    go_wp2_with fail
    exact bodyPost_ret (fA KE.out.2 rfl rfl) rfl KE.out.1
 have e0:((y:Int)==0)=false:=by simp;omega
 clear y0;go_wp2_with fail
 obtain⟨P,iy⟩:∃P,w3=P:=⟨_,rfl⟩
 subst iy;have aM:∃(a:List (List Int)) (C:Option Addr) (D:Nat) (ahead:List (List Int)) (z:Option Addr) (B:Nat) (bP I bM bs:Nat),RB w m fs lp w3.heap.size W0.heap.size F.heap.size S s (.slice (F,0) 1 1) 1 [S s.length cs] bP I C D a bM bs z B ahead (.slice none 0 0) (.slice none 0 0) w3/\li G 2 a/\li G 2 ahead/\(F.heap.size<bP\/I<=F)/\(F.heap.size<bM\/bs<=F):=⟨[],none,0,[],none,0,W0.heap.size,0,W0.heap.size,0,⟨aa.out,F3.out,O3.out,Sl.nil,Sl.nil,by omega,by omega,by omega,by omega,by omega,by omega,by omega,ae _⟩,.nil _ _,.nil _ _,.inr (nz _),.inr (nz _)⟩
 have bp:F.heap.size+1<=w3.heap.size:=by omega
 obtain⟨P,iy⟩:∃P,w3=P:=⟨_,rfl⟩
 rw[iy]at aM bp ⊢;clear aa F3 O3 z3 iy;obtain⟨a,C,D,ahead,z,B,bP,I,bM,bs,ak,hB,hA,aR,a0⟩:=aM;have HX:=J ak;have eX:=J hB;have uu:=J hA;clear ak hB hA;have x1:P.cell? (w.heap.size+1,1)=some (.slice (F,0) 1 1):=HX.out.rs.cell 1;have jP:w.heap.size+1≠m:=by omega
 have dh:True:=trivial
 first|(go_region_with (go_at_call 119;have _t:=dh;refine(jg _ m fs lp G Ag cg (by exact HX.out.rs.b) HF.out h1 hG).mono ?_;rintro e wq ⟨q,Aq,cq,hq,rfl,BO,FK,Q⟩;have UR:=dW Q jP x1;have yU:=HX.out.drew.next l FK Q;have zq:=Q.size;obtain⟨N,O,w9,f,K,x9,y9,h9⟩:=yU.app (cq:=cq) l ⟨ae _,aR,a0⟩ (il.of gT.ok BO) (show F.heap.size<P.heap.size by omega) (ae _) (show w.heap.size+2<=P.heap.size by omega) (by have:=hq.i;omega);have U:=J h9;have HQ:=J hq;clear _t dh yU h9 FK Q BO hq))|fail
 all_goals
  obtain⟨Wy,Fh⟩:∃Wy,w9.setCell (w.heap.size+1,1) (N (1+q.length) O)=Wy:=⟨_,rfl⟩
  rw[Fh]at U ⊢;clear Fh K x9 y9 UR x1;have a1:∃lN mJ,Hid (RQ w m fs lp w9.heap.size W0.heap.size F.heap.size S s (N (1+q.length) O) (1+q.length) ([S s.length cs]++f) bP I C D a bM bs z B ahead (.slice none 0 0) (.slice none 0 0) lN mJ f q Wy):=⟨_,_,U⟩
  clear U;obtain⟨lN,mJ,U⟩:=a1;have a2:=U.out.rb.g.2.2.2.2.2.2.2;go_wp2_with fail
  refine(aA Wy m fs lp 3 U.out.rb.rs.b (by omega) (by omega)).mono ?_;rintro e Wl ⟨kk,bw,rfl,al,V⟩;have UU:=V.size;have HX:=J ((U.out.next l al V).rn (nt a2 UU) (ae _));have bx:=HQ.out.i;clear al V U;go_wp2_with fail
  go_loopw [13] (λi wr=>∃(k:Nat) (E:List Call) (A:Option Addr) (c:Nat),k<=kk/\i=.int .i64 k/\E.length=k/\wr.ownsRow Wl.heap.size xh 2 (A k c) k (uG E)/\Hid (∀c∈E,In (1+q.length) c.iB/\c.lookup∈Z)/\Hid (RQ w m fs lp Wl.heap.size W0.heap.size F.heap.size S s (N (1+q.length) O) (1+q.length) ([S s.length cs]++f) bP I C D a bM bs z B ahead (.slice none 0 0) (A k c) lN mJ f q wr)) (λi _=>kk - (intOf i).toNat)
  case atStart=>exact⟨0,[],none,0,nz _,rfl,rfl,World.ownsRow_nil _ _ _ _,J (by simp),HX⟩
  case round=>
   obtain⟨p,rfl⟩:∃x,x=wr:=⟨_,rfl⟩
   obtain⟨k,E,A,c,hk,rfl,ao,ho,L,d⟩:=hrel;have HO:=J ho;have ZU:=J ao;clear ho ao;by_cases a3:k<kk/\0<Z.length
   .obtain⟨a4,ap⟩:=a3;obtain⟨bc,oc,rfl⟩:∃bc oc,Ac=some ⟨bc,oc,none⟩:=by obtain⟨b,o,-,e,-⟩:=HC.out.int ap;exact⟨b,o,e⟩
    have x4:p.cell? (w.heap.size+1,4)=some (A k c):=d.out.rb.rs.cell 4;have x1:p.cell? (w.heap.size+1,1)=some (N (1+q.length) O):=d.out.rb.rs.cell 1;have jP:w.heap.size+1≠m:=by omega
    go_wp2_with fail
    have dh:True:=trivial;have oG:True:=trivial
    first|(go_region_with (first
     |(go_at_call 29;have _t:=dh;refine(aA _ m fs lp (1+q.length) (by exact d.out.rb.rs.b) (by omega) (by omega)).mono ?_;rintro e w3 ⟨x,hx,rfl,bK,t⟩;have aq:=dW t jP x4;have a5:=dW t jP x1;clear _t dh)
     |(go_at_call 29;have _t:=oG;refine(aA _ m fs lp Z.length (by exact bK) (by omega) (by omega)).mono ?_;rintro e w4 ⟨y,hy,rfl,T,v⟩;have a6:=dW v jP aq;have u:=(d.out.drew.next l bK t).next l T v;have bA:=u.rb.rs.var.lt;have a7:=u.rb.g.2.2.2.2.2.2.2;obtain⟨vv,bB,ar⟩:=(il.row gS.ok HC.out u.rb.rs.j (λx hx=>by injection hx with hx;exact .inl (by omega))).BE hy;have a8:=J ar;have o4:=(Sp.next bK v).own ((Sp.next d.out.drew.rb.rs.b t).own (show p.drew.ownsRow Wl.heap.size xh 2 (A k c) k (uG E)from HO.out) (by decide)) (by decide);obtain⟨A6,c6,w8,K,x9,y9,aW,h9⟩:=u.more l RH (by decide) (by decide) (by decide) (j:=4) (ae _) a7 rfl o4 #[.int .i64 x,vv] rfl (by simp[Value.oneCell']) (by omega);have mf:=J aW;have jl:=J h9;clear _t oG u o4 aW h9 bK t T v ar)))|fail
    all_goals
     have rJ:=J (jl.out.vD l (A6 (k+1) c6));have av:(w8.setCell (w.heap.size+1,4) (A6 (k+1) c6)).ownsRow Wl.heap.size xh 2 (A6 (k+1) c6) (k+1) (uG (E++[⟨(x:Int),vv⟩])):=by have:=(Sp.set (m:=m) jl.out.rb.rs.var (by omega) 4 (A6 (k+1) c6)).own mf.out (by decide);simpa [uG,Qv]using this
     have aw:Hid (∀c∈E++[(⟨(x:Int),vv⟩:Call)],In (1+q.length) c.iB/\c.lookup∈Z):=J (λn hn=>by
      rw[jp,js]at hn;rcases hn with hn|rfl
      .exact L.out n hn
      exact⟨⟨show(0:Int)<=(x:Int) by omega,show(x:Int)<((1+q.length:Nat):Int) by omega⟩,kj a8.out⟩)
     have ay:(E++[(⟨(x:Int),vv⟩:Call)]).length=k+1:=by rw[la,ZU.out];rfl
     have vO:=J av;have a9:=J ay;clear av ay K x9 y9 jl mf aq a6 a5;go_wp2_with fail
     go_roundw
     case rel=>exact⟨k+1,E++[⟨(x:Int),vv⟩],A6,c6,by omega,by simp,a9.out,vO.out,aw,rJ⟩
     case measure=>simp[intOf];omega
   have v0:p.cell? (w.heap.size+1,0)=some (C a.length D):=d.out.rb.rs.cell 0;have v1:p.cell? (w.heap.size+1,1)=some (N (1+q.length) O):=d.out.rb.rs.cell 1;have v2:p.cell? (w.heap.size+1,2)=some (z ahead.length B):=d.out.rb.rs.cell 2;have v3:p.cell? (w.heap.size+1,3)=some (.slice none 0 0):=d.out.rb.rs.cell 3;have v4:p.cell? (w.heap.size+1,4)=some (A k c):=d.out.rb.rs.cell 4;have v5:p.cell? (w.heap.size+1,5)=some (.int .i64 0):=d.out.rb.rs.cell 5;have r0:p.cell? (w,0)=some (.slice none 0 0):=d.out.rb.rs.c.cell 0;have r1:p.cell? (w,1)=some (.slice none 0 0):=d.out.rb.rs.c.cell 1;have r2:p.cell? (w,2)=some (.slice none 0 0):=d.out.rb.rs.c.cell 2;have r3:p.cell? (w,3)=some (.slice none 0 0):=d.out.rb.rs.c.cell 3;have r4:p.cell? (w,4)=some (.slice none 0 0):=d.out.rb.rs.c.cell 4;have r5:p.cell? (w,5)=some (.int .i64 0):=d.out.rb.rs.c.cell 5;have f0:=d.out.rb.rs.c.frozen 0;have f1:=d.out.rb.rs.c.frozen 1;have f2:=d.out.rb.rs.c.frozen 2;have f3:=d.out.rb.rs.c.frozen 3;have f4:=d.out.rb.rs.c.frozen 4;have f5:=d.out.rb.rs.c.frozen 5;obtain⟨b0,b1,b2,b3,b4,b5,b6,b7⟩:=d.out.rb.g;have bq:=d.out.bq;have W:=ZU.out;have X:([s]++q).length=1+q.length:=by simp;omega
   have aD:ng w m fs lp G 4 (.returned (.agg #[C a.length D,N (1+q.length) O,z ahead.length B,(),A k c,.int .i64 0])) (ML p w.heap.size (C a.length D) (N (1+q.length) O) (z ahead.length B) (.slice none 0 0) (A k c) (.int .i64 0))/\Bk (ML p w.heap.size (C a.length D) (N (1+q.length) O) (z ahead.length B) (.slice none 0 0) (A k c) (.int .i64 0)) w.heap.size dD #[C a.length D,N (1+q.length) O,z ahead.length B,(),A k c,.int .i64 0]:=by have hr:mu G 4 ⟨a,[s]++q,ahead,[],E,0⟩:=mu.mk' (eX.out.mono (by omega)) ((li.one HS.out).app HQ.out) (uu.out.mono (by omega)) (by simp) ⟨λc hc=>⟨by have:=(L.out c hc).1;unfold In at this;unfold N9;omega,HN.out _ (L.out c hc).2⟩,show E.length<=2 by omega⟩ (show N9 0 from by unfold N9;omega) (λh=>absurd h (by decide)) (λ_=>rfl) (λh=>absurd rfl h) (λ_=>rfl);have ba:Fl gT 1 p (TS jQ w.heap.size p) ([S s.length cs]++f) ([s]++q):=(Fl.one (R:=gT) ⟨S,cs,rfl,il.J gS.ok d.out.rb.set (by decide) (by omega)⟩ rfl).append (d.out.fq.mono gT.ok (TR.ts (by decide) (by omega)));have Y:=d.out.rb.rs;have SK:=d.out.rb.q;have aE:=HO.out;rw[<-X]at Y SK;rw[<-W]at Y aE;have M:=lu (G:=G) (gd:=4) (r:=⟨a,[s]++q,ahead,[],E,0⟩) (A0:=C) (A1:=N) (A2:=z) (A3:=none) (A4:=A) (c0:=D) (c1:=O) (c2:=B) (c3:=0) (c4:=c) Y l hr (show gN 0 from by unfold gN;omega) (il.J gT.ok d.out.rb.fb (by decide) (by omega)) (dV SK ba (by decide) (by omega) (by omega)) (il.J gT.ok d.out.rb.fa (by decide) (by omega)) Sl.nil (dV aE (Rk _ _ E (λc hc=>⟨by have:=(L.out c hc).1;unfold In at this;unfold gN;omega,by have:=HN.out _ (L.out c hc).2;unfold N9 at this;unfold gN;omega⟩)) (by decide) (by omega) (by omega));simp only[X,W]at M;exact⟨M.2,M.1⟩
   have KE:=J aD;clear aD W X bq b0 b1 b2 b3 b4 b5 b6 b7;rcases Nat.lt_or_ge k kk with a4|hge
   .have bb:Z.length=0:=by omega
    rw[bb];go_wp2_with fail
    exact bodyPost_ret (fA KE.out.2 rfl rfl) rfl KE.out.1
   go_wp2_with fail
   exact bodyPost_ret (fA KE.out.2 rfl rfl) rfl KE.out.1
