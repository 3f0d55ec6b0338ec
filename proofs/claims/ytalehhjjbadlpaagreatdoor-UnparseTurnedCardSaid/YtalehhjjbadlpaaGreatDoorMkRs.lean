/- Lemmas. -/
import Derived.Test.YtalehhjjbadlpaaGreatDoorX13
set_option linter.all false
set_option maxRecDepth 100000
set_option maxHeartbeats 32000000
namespace Go.Proofs.YtalehhjjbadlpaaGreatDoor
open Go.RowKit
variable(w:World)
section
attribute [-go_sem] Builtin.append_
theorem AY {w:World}{o b:Nat}{e:TypeId}{v:Value}{n c:Nat}{p:List Value}(h:w.ownsRow o e 1 (.slice (b,0) n c) n (v::p)):w.cell? (b,0)=some v:=by
 obtain⟨j,k,a,f⟩:=Rd.U h;simp only[oa,true_and]at a;obtain⟨rfl,rfl⟩:=a;have g:0<n:=by have:=h.1;simp at this;omega
 obtain⟨l,m,d,-,i⟩:=f.2 g;simp only[n',Addr.mk.injEq,and_true]at d;obtain⟨rfl,rfl⟩:=d;exact i 0 v rfl
theorem Vx (m:Nat)(fs:Nat->Value)(lp:Int)(G:Nat)(Ag:Option Addr)(cg:Nat)(Ac:Option Addr)(nc cc:Nat)(h:Mk w m fs lp)(hf:fs 1= Ag G cg)(h1:1<=G)(hG:G<=1000):Calls Tryz.prog 76 #[.pointer (m,0),.int .i64 1,Ac nc cc] w (ng w m fs lp G 1):=by
 have q:=h.lt;have qg:w.cell? (m,3)=some (Ag G cg):=by have:=h.cells.1 1 (by omega);rw[hf]at this;exact this
 have H:=J h;have HF:=J hf;clear h hf;go_enter Tryz.func76,Tryz.ntmps76
 go_wp2_with fail
 obtain⟨M,N⟩:∃M,(w.alloc (.cells gU dD)).alloc (.cells gU dD)=M:=⟨_,rfl⟩
 have HR:Hid (RS w m fs lp gU M):=by rw[<-N];exact J (RS.begin H)
 have z0:M.heap.size=w.heap.size+2:=by rw[<-N];simp
 unfold gU at N;rw[N];clear N qg;refine(uj M m fs lp G Ag cg HR.b HF h1 hG).mono ?_;rintro e p ⟨s,F,O,hs,a7,rfl,av,aw,al⟩;have P:=J (HR.next aw al);have xy:=J (il.of gS.ok av);have HS:=J hs;have z1:=al.size;have x1:p.cell? (w.heap.size+1,1)=some (.slice none 0 0):=P.cell 1;have y1:=P.var.frozen 1;have zr:=P.var.lt;clear av aw al HR hs;go_wp2_with fail
 obtain⟨W2,ao⟩:∃W2,(p.setCell (w.heap.size+1,1) (.slice (p,0) 1 1)).alloc (.cells #[F s.length O] kl)=W2:=⟨_,rfl⟩
 rw[ao];obtain⟨ay,aD,aE,z2⟩:=P.tD q xy (by omega) (by omega) ao;have ad:=J ay;have F2:=J aD;have O2:=J aE;clear ay aD aE ao x1 y1 P xy;go_wp2_with fail
 refine(aA W2 m fs lp 2 ad.b (by omega) (by omega)).mono ?_;rintro e w3 ⟨y,hy,rfl,bK,l⟩;have qM:=ad.next bK l;have aL:=il.next gS.ok F2 (by omega) l;have aM:=(Sp.next ad.b l).own O2 (by decide);have z3:=l.size;have f:=J qM;have F3:=J aL;have O3:=J aM;clear qM aL aM bK l ad F2 O2;by_cases y0:y=0
 .have e0:((y:Int)==0)=true:=by simp;omega
  clear y0;go_wp2_with fail
  refine(jg w3 m fs lp G Ag cg f.b HF h1 hG).mono ?_;rintro e w4 ⟨a,D,E,hB,rfl,aN,aQ,Q⟩;have S:=J (f.next aQ Q);have F4:=J (il.next gS.ok F3 (by omega) Q);have O4:=J ((Sp.next f.b Q).own O3 (by decide));have zZ:=J (il.of gT.ok aN);have z4:=Q.size;have x4:w4.cell? (w.heap.size+1,0)=some (.slice none 0 0):=S.cell 0;have y4:=S.var.frozen 0;clear aN aQ Q f F3 O3;go_wp2_with fail
  obtain⟨W5,oz⟩:∃W5,w4.setCell (w.heap.size+1,0) (D a.length E)=W5:=⟨_,rfl⟩
  have uQ:=S.put q 0 (D a.length E);have pI:=il.put gS.ok F4 (g:=w.heap.size+1) (.inl (by omega)) 0 (D a.length E);have uK:=il.put gT.ok zZ (g:=w.heap.size+1) (.inl (by omega)) 0 (D a.length E);have uN:=(Sp.set (m:=m) S.var (by omega) 0 (D a.length E)).own O4 (by decide);have z5:W5.heap.size=w4.heap.size:=by rw[<-oz];simp
  rw[oz]at uQ pI uK uN ⊢;have oZ:=J uQ;have F5:=J pI;have Ad:=J uK;have O5:=J uN;clear uQ pI uK uN oz S F4 O4 zZ x4 y4;refine(jg W5 m fs lp G Ag cg oZ.b HF h1 hG).mono ?_;rintro e w6 ⟨ahead,v,z,hA,rfl,aR,xO,K⟩;have kU:=J (oZ.next xO K);have F6:=J (il.next gS.ok F5 (by omega) K);have Ae:=J (il.next gT.ok Ad (by omega) K);have O6:=J ((Sp.next oZ.b K).own O5 (by decide));have zY:=J (il.of gT.ok aR);have z6:=K.size;have x6:w6.cell? (w.heap.size+1,2)=some (.slice none 0 0):=kU.cell 2;have y6:=kU.var.frozen 2;clear aR xO K oZ F5 O5 Ad;go_wp2_with fail
  obtain⟨u,iy⟩:∃u,w6.setCell (w.heap.size+1,2) (v ahead.length z)=u:=⟨_,rfl⟩
  have uS:=kU.put q 2 (v ahead.length z);have qC:=il.put gS.ok F6 (g:=w.heap.size+1) (.inl (by omega)) 2 (v ahead.length z);have uM:=il.put gT.ok Ae (g:=w.heap.size+1) (.inl (by omega)) 2 (v ahead.length z);have uJ:=il.put gT.ok zY (g:=w.heap.size+1) (.inl (by omega)) 2 (v ahead.length z);have uO:=(Sp.set (m:=m) kU.var (by omega) 2 (v ahead.length z)).own O6 (by decide);have z7:u.heap.size=w6.heap.size:=by rw[<-iy];simp
  rw[iy]at uS qC uM uJ uO ⊢;have ak:∃(a:List (List Int)) (D:Option Addr) (E:Nat) (ahead:List (List Int)) (v:Option Addr) (z:Nat) (bP B bM C:Nat),RB w m fs lp u.heap.size M.heap.size p.heap.size F s (.slice (p,0) 1 1) 1 [F s.length O] bP B D E a bM C v z ahead (.slice none 0 0) (.slice none 0 0) u/\li G 2 a/\li G 2 ahead/\(p.heap.size<bP\/B<=p)/\(p.heap.size<bM\/C<=p):=⟨a,D,E,ahead,v,z,w3.heap.size,w4.heap.size,W5.heap.size,w6.heap.size,⟨uS,qC,uO,uM,uJ,by omega,by omega,by omega,by omega,by omega,by omega,by omega,ae _⟩,hB,hA,.inl (by omega),.inl (by omega)⟩
  clear uS qC uM uJ uO iy kU F6 Ae O6 zY x6 y6 hB hA z3 z4 z5 z6 z7;obtain⟨a,D,E,ahead,v,z,bP,B,bM,C,T,hB,hA,a2,a3⟩:=ak;have HX:=J T;have eX:=J hB;have uu:=J hA;clear T hB hA;have ap:=HS.i;go_loopw [9] (λi wr=>∃(k:Nat) (o:List Int) (A:Option Addr) (c:Nat),k<=s.length/\i=.int .i64 k/\o.length=k/\wr.ownsRow u.heap.size aK 1 (A k c) k (aC o)/\Hid (∀n∈o,In G n)/\Hid (RB w m fs lp u.heap.size M.heap.size p.heap.size F s (.slice (p,0) 1 1) 1 [F s.length O] bP B D E a bM C v z ahead (A k c) (.slice none 0 0) wr)) (λi _=>s.length - (intOf i).toNat)
  case atStart=>exact⟨0,[],none,0,nz _,rfl,rfl,World.ownsRow_nil _ _ _ _,J (by simp),HX⟩
  case round=>
   obtain⟨d,rfl⟩:∃x,x=wr:=⟨_,rfl⟩
   obtain⟨k,o,A,c,hk,rfl,U,ho,I,b⟩:=hrel;have HO:=J ho;have HK:=J U;clear ho U;have c1:d.cell? (w.heap.size+1,1)=some (.slice (p,0) 1 1):=b.rs.cell 1;have a4:d.cell? (p,0)=some (F s.length O):=AY b.q;by_cases a5:k<s.length
   .have x3:d.cell? (w.heap.size+1,3)=some (A k c):=b.rs.cell 3;have jP:w.heap.size+1≠m:=by omega
    have dh:True:=trivial;go_wp2_with fail
    first|(go_region_with (go_at_call 29;have _t:=dh;refine(aA _ m fs lp G (by exact b.rs.b) h1 (by omega)).mono ?_;rintro e w3 ⟨x,hx,rfl,bK,l⟩;have zW:=dW l jP x3;have f:=b.drew.next q bK l;have MW:=f.rs.var.lt;have G5:=f.g.2.2.2.2.2.2.2;have o3:=(Sp.next b.drew.rs.b l).own (show d.drew.ownsRow u.heap.size aK 1 (A k c) k (aC o)from HO.out) (by decide);obtain⟨V,W,w9,X,x9,y9,aW,h9⟩:=f.more q iw (by decide) (by decide) (by decide) (j:=3) (ae _) G5 rfl o3 #[.int .i64 x] rfl (by simp[Value.oneCell']) (by omega);have mf:=J aW;have jl:=J h9;clear _t dh f o3 aW h9 bK l))|fail
    all_goals
     have rJ:=J (jl.q' q (V (k+1) W));have Y:(w9.setCell (w.heap.size+1,3) (V (k+1) W)).ownsRow u.heap.size aK 1 (V (k+1) W) (k+1) (aC (o++[(x:Int)])):=by have:=(Sp.set (m:=m) jl.rs.var (by omega) 3 (V (k+1) W)).own mf (by decide);simpa [aC,cI]using this
     have Z:Hid (∀n∈o++[(x:Int)],In G n):=J (λn L=>by
      rw[jp,js]at L;rcases L with L|rfl
      .exact I n L
      exact⟨by omega,by omega⟩)
     have aa:(o++[(x:Int)]).length=k+1:=by rw[la,HK.out];rfl
     have vO:=J Y;have aq:=J aa;clear Y aa X x9 y9 jl mf zW;go_wp2_with fail
     go_roundw
     case rel=>exact⟨k+1,o++[(x:Int)],V,W,by omega,by simp,aq,vO,Z,rJ⟩
     case measure=>simp[intOf];omega
   obtain rfl:k=s.length:=by omega
   have v0:d.cell? (w.heap.size+1,0)=some (D a.length E):=b.rs.cell 0;have v2:d.cell? (w.heap.size+1,2)=some (v ahead.length z):=b.rs.cell 2;have v3:d.cell? (w.heap.size+1,3)=some (A s.length c):=b.rs.cell 3;have v4:d.cell? (w.heap.size+1,4)=some (.slice none 0 0):=b.rs.cell 4;have v5:d.cell? (w.heap.size+1,5)=some (.int .i64 0):=b.rs.cell 5;have r0:d.cell? (w,0)=some (.slice none 0 0):=b.rs.c.cell 0;have r1:d.cell? (w,1)=some (.slice none 0 0):=b.rs.c.cell 1;have r2:d.cell? (w,2)=some (.slice none 0 0):=b.rs.c.cell 2;have r3:d.cell? (w,3)=some (.slice none 0 0):=b.rs.c.cell 3;have r4:d.cell? (w,4)=some (.slice none 0 0):=b.rs.c.cell 4;have r5:d.cell? (w,5)=some (.int .i64 0):=b.rs.c.cell 5;have f0:=b.rs.c.frozen 0;have f1:=b.rs.c.frozen 1;have f2:=b.rs.c.frozen 2;have f3:=b.rs.c.frozen 3;have f4:=b.rs.c.frozen 4;have f5:=b.rs.c.frozen 5;go_wp2_with fail
   obtain⟨b0,b1,b2,b3,b4,b5,b6,b7⟩:=b.g;have a1:=HK.out;have hr:mu G 1 ⟨a,[s],ahead,o,[],0⟩:=mu.mk' (eX.mono (by omega)) ((li.one HS).mono (by omega)) (uu.mono (by omega)) ⟨I,show o.length<=4 by omega⟩ (by simp) (show N9 0 from by unfold N9;omega) (λ_=>⟨s,rfl,a1⟩) (λh=>absurd h (by decide)) (λ_=>rfl) (λ_=>rfl);have ar:Fl gT 1 d (TS jQ w.heap.size d) [F s.length O] [s]:=Fl.one (R:=gT) ⟨F,O,rfl,il.J gS.ok b.set (by decide) (by omega)⟩ rfl;have ab:=b.rs;have ac:=HO.out;rw[<-a1]at ab ac;have t:=lu (G:=G) (gd:=1) (r:=⟨a,[s],ahead,o,[],0⟩) (A0:=D) (A1:=some ⟨p.heap.size,0,none⟩) (A2:=v) (A3:=A) (A4:=none) (c0:=E) (c1:=1) (c2:=z) (c3:=c) (c4:=0) ab q hr (show gN 0 from by unfold gN;omega) (il.J gT.ok b.fb (by decide) (by omega)) (dV b.q ar (by decide) (by omega) (by omega)) (il.J gT.ok b.fa (by decide) (by omega)) (dV ac (jW _ _ o (λn L=>In.i64 hG (I n L))) (by decide) (by omega) (by omega)) Sl.nil;simp only[a1]at t;exact bodyPost_ret (fA t.1 rfl rfl) rfl t.2
 have e0:((y:Int)==0)=false:=by simp;omega
 clear y0;go_wp2_with fail
 obtain⟨u,iy⟩:∃u,w3=u:=⟨_,rfl⟩
 subst iy;have ak:∃(a:List (List Int)) (D:Option Addr) (E:Nat) (ahead:List (List Int)) (v:Option Addr) (z:Nat) (bP B bM C:Nat),RB w m fs lp w3.heap.size M.heap.size p.heap.size F s (.slice (p,0) 1 1) 1 [F s.length O] bP B D E a bM C v z ahead (.slice none 0 0) (.slice none 0 0) w3/\li G 2 a/\li G 2 ahead/\(p.heap.size<bP\/B<=p)/\(p.heap.size<bM\/C<=p):=⟨[],none,0,[],none,0,M.heap.size,0,M.heap.size,0,⟨f,F3,O3,Sl.nil,Sl.nil,by omega,by omega,by omega,by omega,by omega,by omega,by omega,ae _⟩,.nil _ _,.nil _ _,.inr (nz _),.inr (nz _)⟩
 have a0:p.heap.size+1<=w3.heap.size:=by omega
 obtain⟨u,iy⟩:∃u,w3=u:=⟨_,rfl⟩
 rw[iy]at ak a0 ⊢;clear f F3 O3 z3 iy;obtain⟨a,D,E,ahead,v,z,bP,B,bM,C,T,hB,hA,a2,a3⟩:=ak;have HX:=J T;have eX:=J hB;have uu:=J hA;clear T hB hA;have ap:=HS.i;go_loopw [9] (λi wr=>∃(k:Nat) (o:List Int) (A:Option Addr) (c:Nat),k<=s.length/\i=.int .i64 k/\o.length=k/\wr.ownsRow u.heap.size aK 1 (A k c) k (aC o)/\Hid (∀n∈o,In G n)/\Hid (RB w m fs lp u.heap.size M.heap.size p.heap.size F s (.slice (p,0) 1 1) 1 [F s.length O] bP B D E a bM C v z ahead (A k c) (.slice none 0 0) wr)) (λi _=>s.length - (intOf i).toNat)
 case atStart=>exact⟨0,[],none,0,nz _,rfl,rfl,World.ownsRow_nil _ _ _ _,J (by simp),HX⟩
 case round=>
  obtain⟨d,rfl⟩:∃x,x=wr:=⟨_,rfl⟩
  obtain⟨k,o,A,c,hk,rfl,U,ho,I,b⟩:=hrel;have HO:=J ho;have HK:=J U;clear ho U;have c1:d.cell? (w.heap.size+1,1)=some (.slice (p,0) 1 1):=b.rs.cell 1;have a4:d.cell? (p,0)=some (F s.length O):=AY b.q;by_cases a5:k<s.length
  .have x3:d.cell? (w.heap.size+1,3)=some (A k c):=b.rs.cell 3;have jP:w.heap.size+1≠m:=by omega
   have dh:True:=trivial;go_wp2_with fail
   first|(go_region_with (go_at_call 29;have _t:=dh;refine(aA _ m fs lp G (by exact b.rs.b) h1 (by omega)).mono ?_;rintro e w3 ⟨x,hx,rfl,bK,l⟩;have zW:=dW l jP x3;have f:=b.drew.next q bK l;have MW:=f.rs.var.lt;have G5:=f.g.2.2.2.2.2.2.2;have o3:=(Sp.next b.drew.rs.b l).own (show d.drew.ownsRow u.heap.size aK 1 (A k c) k (aC o)from HO.out) (by decide);obtain⟨V,W,w9,X,x9,y9,aW,h9⟩:=f.more q iw (by decide) (by decide) (by decide) (j:=3) (ae _) G5 rfl o3 #[.int .i64 x] rfl (by simp[Value.oneCell']) (by omega);have mf:=J aW;have jl:=J h9;clear _t dh f o3 aW h9 bK l))|fail
   all_goals
    have rJ:=J (jl.q' q (V (k+1) W));have Y:(w9.setCell (w.heap.size+1,3) (V (k+1) W)).ownsRow u.heap.size aK 1 (V (k+1) W) (k+1) (aC (o++[(x:Int)])):=by have:=(Sp.set (m:=m) jl.rs.var (by omega) 3 (V (k+1) W)).own mf (by decide);simpa [aC,cI]using this
    have Z:Hid (∀n∈o++[(x:Int)],In G n):=J (λn L=>by
     rw[jp,js]at L;rcases L with L|rfl
     .exact I n L
     exact⟨by omega,by omega⟩)
    have aa:(o++[(x:Int)]).length=k+1:=by rw[la,HK.out];rfl
    have vO:=J Y;have aq:=J aa;clear Y aa X x9 y9 jl mf zW;go_wp2_with fail
    go_roundw
    case rel=>exact⟨k+1,o++[(x:Int)],V,W,by omega,by simp,aq,vO,Z,rJ⟩
    case measure=>simp[intOf];omega
  obtain rfl:k=s.length:=by omega
  have v0:d.cell? (w.heap.size+1,0)=some (D a.length E):=b.rs.cell 0;have v2:d.cell? (w.heap.size+1,2)=some (v ahead.length z):=b.rs.cell 2;have v3:d.cell? (w.heap.size+1,3)=some (A s.length c):=b.rs.cell 3;have v4:d.cell? (w.heap.size+1,4)=some (.slice none 0 0):=b.rs.cell 4;have v5:d.cell? (w.heap.size+1,5)=some (.int .i64 0):=b.rs.cell 5;have r0:d.cell? (w,0)=some (.slice none 0 0):=b.rs.c.cell 0;have r1:d.cell? (w,1)=some (.slice none 0 0):=b.rs.c.cell 1;have r2:d.cell? (w,2)=some (.slice none 0 0):=b.rs.c.cell 2;have r3:d.cell? (w,3)=some (.slice none 0 0):=b.rs.c.cell 3;have r4:d.cell? (w,4)=some (.slice none 0 0):=b.rs.c.cell 4;have r5:d.cell? (w,5)=some (.int .i64 0):=b.rs.c.cell 5;have f0:=b.rs.c.frozen 0;have f1:=b.rs.c.frozen 1;have f2:=b.rs.c.frozen 2;have f3:=b.rs.c.frozen 3;have f4:=b.rs.c.frozen 4;have f5:=b.rs.c.frozen 5;go_wp2_with fail
  obtain⟨b0,b1,b2,b3,b4,b5,b6,b7⟩:=b.g;have a1:=HK.out;have hr:mu G 1 ⟨a,[s],ahead,o,[],0⟩:=mu.mk' (eX.mono (by omega)) ((li.one HS).mono (by omega)) (uu.mono (by omega)) ⟨I,show o.length<=4 by omega⟩ (by simp) (show N9 0 from by unfold N9;omega) (λ_=>⟨s,rfl,a1⟩) (λh=>absurd h (by decide)) (λ_=>rfl) (λ_=>rfl);have ar:Fl gT 1 d (TS jQ w.heap.size d) [F s.length O] [s]:=Fl.one (R:=gT) ⟨F,O,rfl,il.J gS.ok b.set (by decide) (by omega)⟩ rfl;have ab:=b.rs;have ac:=HO.out;rw[<-a1]at ab ac;have t:=lu (G:=G) (gd:=1) (r:=⟨a,[s],ahead,o,[],0⟩) (A0:=D) (A1:=some ⟨p.heap.size,0,none⟩) (A2:=v) (A3:=A) (A4:=none) (c0:=E) (c1:=1) (c2:=z) (c3:=c) (c4:=0) ab q hr (show gN 0 from by unfold gN;omega) (il.J gT.ok b.fb (by decide) (by omega)) (dV b.q ar (by decide) (by omega) (by omega)) (il.J gT.ok b.fa (by decide) (by omega)) (dV ac (jW _ _ o (λn L=>In.i64 hG (I n L))) (by decide) (by omega) (by omega)) Sl.nil;simp only[a1]at t;exact bodyPost_ret (fA t.1 rfl rfl) rfl t.2
theorem Uw (m:Nat)(fs:Nat->Value)(lp:Int)(G:Nat)(Ag:Option Addr)(cg:Nat)(Ac:Option Addr)(nc cc:Nat)(h:Mk w m fs lp)(hf:fs 1= Ag G cg)(h1:1<=G)(hG:G<=1000):Calls Tryz.prog 76 #[.pointer (m,0),.int .i64 5,Ac nc cc] w (ng w m fs lp G 5):=by
 have q:=h.lt;have qg:w.cell? (m,3)=some (Ag G cg):=by have:=h.cells.1 1 (by omega);rw[hf]at this;exact this
 have H:=J h;have HF:=J hf;clear h hf;go_enter Tryz.func76,Tryz.ntmps76
 go_wp2_with fail
 obtain⟨M,N⟩:∃M,(w.alloc (.cells gU dD)).alloc (.cells gU dD)=M:=⟨_,rfl⟩
 have HR:Hid (RS w m fs lp gU M):=by rw[<-N];exact J (RS.begin H)
 have z0:M.heap.size=w.heap.size+2:=by rw[<-N];simp
 unfold gU at N;rw[N];clear N qg;refine(uj M m fs lp G Ag cg HR.b HF h1 hG).mono ?_;rintro e p ⟨s,F,O,hs,a7,rfl,av,aw,al⟩;have P:=J (HR.next aw al);have xy:=J (il.of gS.ok av);have HS:=J hs;have z1:=al.size;have x1:p.cell? (w.heap.size+1,1)=some (.slice none 0 0):=P.cell 1;have y1:=P.var.frozen 1;have zr:=P.var.lt;clear av aw al HR hs;go_wp2_with fail
 obtain⟨W2,ao⟩:∃W2,(p.setCell (w.heap.size+1,1) (.slice (p,0) 1 1)).alloc (.cells #[F s.length O] kl)=W2:=⟨_,rfl⟩
 rw[ao];obtain⟨ay,aD,aE,z2⟩:=P.tD q xy (by omega) (by omega) ao;have ad:=J ay;have F2:=J aD;have O2:=J aE;clear ay aD aE ao x1 y1 P xy;go_wp2_with fail
 refine(aA W2 m fs lp 2 ad.b (by omega) (by omega)).mono ?_;rintro e w3 ⟨y,hy,rfl,bK,l⟩;have qM:=ad.next bK l;have aL:=il.next gS.ok F2 (by omega) l;have aM:=(Sp.next ad.b l).own O2 (by decide);have z3:=l.size;have f:=J qM;have F3:=J aL;have O3:=J aM;clear qM aL aM bK l ad F2 O2;by_cases y0:y=0
 .have e0:((y:Int)==0)=true:=by simp;omega
  clear y0;go_wp2_with fail
  refine(jg w3 m fs lp G Ag cg f.b HF h1 hG).mono ?_;rintro e w4 ⟨a,D,E,hB,rfl,aN,aQ,Q⟩;have S:=J (f.next aQ Q);have F4:=J (il.next gS.ok F3 (by omega) Q);have O4:=J ((Sp.next f.b Q).own O3 (by decide));have zZ:=J (il.of gT.ok aN);have z4:=Q.size;have x4:w4.cell? (w.heap.size+1,0)=some (.slice none 0 0):=S.cell 0;have y4:=S.var.frozen 0;clear aN aQ Q f F3 O3;go_wp2_with fail
  obtain⟨W5,oz⟩:∃W5,w4.setCell (w.heap.size+1,0) (D a.length E)=W5:=⟨_,rfl⟩
  have uQ:=S.put q 0 (D a.length E);have pI:=il.put gS.ok F4 (g:=w.heap.size+1) (.inl (by omega)) 0 (D a.length E);have uK:=il.put gT.ok zZ (g:=w.heap.size+1) (.inl (by omega)) 0 (D a.length E);have uN:=(Sp.set (m:=m) S.var (by omega) 0 (D a.length E)).own O4 (by decide);have z5:W5.heap.size=w4.heap.size:=by rw[<-oz];simp
  rw[oz]at uQ pI uK uN ⊢;have oZ:=J uQ;have F5:=J pI;have Ad:=J uK;have O5:=J uN;clear uQ pI uK uN oz S F4 O4 zZ x4 y4;refine(jg W5 m fs lp G Ag cg oZ.b HF h1 hG).mono ?_;rintro e w6 ⟨ahead,v,z,hA,rfl,aR,xO,K⟩;have kU:=J (oZ.next xO K);have F6:=J (il.next gS.ok F5 (by omega) K);have Ae:=J (il.next gT.ok Ad (by omega) K);have O6:=J ((Sp.next oZ.b K).own O5 (by decide));have zY:=J (il.of gT.ok aR);have z6:=K.size;have x6:w6.cell? (w.heap.size+1,2)=some (.slice none 0 0):=kU.cell 2;have y6:=kU.var.frozen 2;clear aR xO K oZ F5 O5 Ad;go_wp2_with fail
  obtain⟨u,iy⟩:∃u,w6.setCell (w.heap.size+1,2) (v ahead.length z)=u:=⟨_,rfl⟩
  have uS:=kU.put q 2 (v ahead.length z);have qC:=il.put gS.ok F6 (g:=w.heap.size+1) (.inl (by omega)) 2 (v ahead.length z);have uM:=il.put gT.ok Ae (g:=w.heap.size+1) (.inl (by omega)) 2 (v ahead.length z);have uJ:=il.put gT.ok zY (g:=w.heap.size+1) (.inl (by omega)) 2 (v ahead.length z);have uO:=(Sp.set (m:=m) kU.var (by omega) 2 (v ahead.length z)).own O6 (by decide);have z7:u.heap.size=w6.heap.size:=by rw[<-iy];simp
  rw[iy]at uS qC uM uJ uO ⊢;have ak:∃(a:List (List Int)) (D:Option Addr) (E:Nat) (ahead:List (List Int)) (v:Option Addr) (z:Nat) (bP B bM C:Nat),RB w m fs lp u.heap.size M.heap.size p.heap.size F s (.slice (p,0) 1 1) 1 [F s.length O] bP B D E a bM C v z ahead (.slice none 0 0) (.slice none 0 0) u/\li G 2 a/\li G 2 ahead/\(p.heap.size<bP\/B<=p)/\(p.heap.size<bM\/C<=p):=⟨a,D,E,ahead,v,z,w3.heap.size,w4.heap.size,W5.heap.size,w6.heap.size,⟨uS,qC,uO,uM,uJ,by omega,by omega,by omega,by omega,by omega,by omega,by omega,ae _⟩,hB,hA,.inl (by omega),.inl (by omega)⟩
  clear uS qC uM uJ uO iy kU F6 Ae O6 zY x6 y6 hB hA z3 z4 z5 z6 z7;obtain⟨a,D,E,ahead,v,z,bP,B,bM,C,T,hB,hA,a2,a3⟩:=ak;have HX:=J T;have eX:=J hB;have uu:=J hA;clear T hB hA;have ap:=HS.i;go_loopw [9] (λi wr=>∃(k:Nat) (o:List Int) (A:Option Addr) (c:Nat),k<=s.length/\i=.int .i64 k/\o.length=k/\wr.ownsRow u.heap.size aK 1 (A k c) k (aC o)/\Hid (∀n∈o,In G n)/\Hid (RB w m fs lp u.heap.size M.heap.size p.heap.size F s (.slice (p,0) 1 1) 1 [F s.length O] bP B D E a bM C v z ahead (A k c) (.slice none 0 0) wr)) (λi _=>s.length - (intOf i).toNat)
  case atStart=>exact⟨0,[],none,0,nz _,rfl,rfl,World.ownsRow_nil _ _ _ _,J (by simp),HX⟩
  case round=>
   obtain⟨d,rfl⟩:∃x,x=wr:=⟨_,rfl⟩
   obtain⟨k,o,A,c,hk,rfl,U,ho,I,b⟩:=hrel;have HO:=J ho;have HK:=J U;clear ho U;have c1:d.cell? (w.heap.size+1,1)=some (.slice (p,0) 1 1):=b.rs.cell 1;have a4:d.cell? (p,0)=some (F s.length O):=AY b.q;by_cases a5:k<s.length
   .have x3:d.cell? (w.heap.size+1,3)=some (A k c):=b.rs.cell 3;have jP:w.heap.size+1≠m:=by omega
    have dh:True:=trivial;go_wp2_with fail
    first|(go_region_with (go_at_call 29;have _t:=dh;refine(aA _ m fs lp G (by exact b.rs.b) h1 (by omega)).mono ?_;rintro e w3 ⟨x,hx,rfl,bK,l⟩;have zW:=dW l jP x3;have f:=b.drew.next q bK l;have MW:=f.rs.var.lt;have G5:=f.g.2.2.2.2.2.2.2;have o3:=(Sp.next b.drew.rs.b l).own (show d.drew.ownsRow u.heap.size aK 1 (A k c) k (aC o)from HO.out) (by decide);obtain⟨V,W,w9,X,x9,y9,aW,h9⟩:=f.more q iw (by decide) (by decide) (by decide) (j:=3) (ae _) G5 rfl o3 #[.int .i64 x] rfl (by simp[Value.oneCell']) (by omega);have mf:=J aW;have jl:=J h9;clear _t dh f o3 aW h9 bK l))|fail
    all_goals
     have rJ:=J (jl.q' q (V (k+1) W));have Y:(w9.setCell (w.heap.size+1,3) (V (k+1) W)).ownsRow u.heap.size aK 1 (V (k+1) W) (k+1) (aC (o++[(x:Int)])):=by have:=(Sp.set (m:=m) jl.rs.var (by omega) 3 (V (k+1) W)).own mf (by decide);simpa [aC,cI]using this
     have Z:Hid (∀n∈o++[(x:Int)],In G n):=J (λn L=>by
      rw[jp,js]at L;rcases L with L|rfl
      .exact I n L
      exact⟨by omega,by omega⟩)
     have aa:(o++[(x:Int)]).length=k+1:=by rw[la,HK.out];rfl
     have vO:=J Y;have aq:=J aa;clear Y aa X x9 y9 jl mf zW;go_wp2_with fail
     go_roundw
     case rel=>exact⟨k+1,o++[(x:Int)],V,W,by omega,by simp,aq,vO,Z,rJ⟩
     case measure=>simp[intOf];omega
   obtain rfl:k=s.length:=by omega
   have v0:d.cell? (w.heap.size+1,0)=some (D a.length E):=b.rs.cell 0;have v2:d.cell? (w.heap.size+1,2)=some (v ahead.length z):=b.rs.cell 2;have v3:d.cell? (w.heap.size+1,3)=some (A s.length c):=b.rs.cell 3;have v4:d.cell? (w.heap.size+1,4)=some (.slice none 0 0):=b.rs.cell 4;have v5:d.cell? (w.heap.size+1,5)=some (.int .i64 0):=b.rs.cell 5;have r0:d.cell? (w,0)=some (.slice none 0 0):=b.rs.c.cell 0;have r1:d.cell? (w,1)=some (.slice none 0 0):=b.rs.c.cell 1;have r2:d.cell? (w,2)=some (.slice none 0 0):=b.rs.c.cell 2;have r3:d.cell? (w,3)=some (.slice none 0 0):=b.rs.c.cell 3;have r4:d.cell? (w,4)=some (.slice none 0 0):=b.rs.c.cell 4;have r5:d.cell? (w,5)=some (.int .i64 0):=b.rs.c.cell 5;have f0:=b.rs.c.frozen 0;have f1:=b.rs.c.frozen 1;have f2:=b.rs.c.frozen 2;have f3:=b.rs.c.frozen 3;have f4:=b.rs.c.frozen 4;have f5:=b.rs.c.frozen 5;go_wp2_with fail
   obtain⟨b0,b1,b2,b3,b4,b5,b6,b7⟩:=b.g;have a1:=HK.out;have hr:mu G 5 ⟨a,[s],ahead,o,[],0⟩:=mu.mk' (eX.mono (by omega)) ((li.one HS).mono (by omega)) (uu.mono (by omega)) ⟨I,show o.length<=4 by omega⟩ (by simp) (show N9 0 from by unfold N9;omega) (λ_=>⟨s,rfl,a1⟩) (λh=>absurd h (by decide)) (λ_=>rfl) (λ_=>rfl);have ar:Fl gT 1 d (TS jQ w.heap.size d) [F s.length O] [s]:=Fl.one (R:=gT) ⟨F,O,rfl,il.J gS.ok b.set (by decide) (by omega)⟩ rfl;have ab:=b.rs;have ac:=HO.out;rw[<-a1]at ab ac;have t:=lu (G:=G) (gd:=5) (r:=⟨a,[s],ahead,o,[],0⟩) (A0:=D) (A1:=some ⟨p.heap.size,0,none⟩) (A2:=v) (A3:=A) (A4:=none) (c0:=E) (c1:=1) (c2:=z) (c3:=c) (c4:=0) ab q hr (show gN 0 from by unfold gN;omega) (il.J gT.ok b.fb (by decide) (by omega)) (dV b.q ar (by decide) (by omega) (by omega)) (il.J gT.ok b.fa (by decide) (by omega)) (dV ac (jW _ _ o (λn L=>In.i64 hG (I n L))) (by decide) (by omega) (by omega)) Sl.nil;simp only[a1]at t;exact bodyPost_ret (fA t.1 rfl rfl) rfl t.2
 have e0:((y:Int)==0)=false:=by simp;omega
 clear y0;go_wp2_with fail
 obtain⟨u,iy⟩:∃u,w3=u:=⟨_,rfl⟩
 subst iy;have ak:∃(a:List (List Int)) (D:Option Addr) (E:Nat) (ahead:List (List Int)) (v:Option Addr) (z:Nat) (bP B bM C:Nat),RB w m fs lp w3.heap.size M.heap.size p.heap.size F s (.slice (p,0) 1 1) 1 [F s.length O] bP B D E a bM C v z ahead (.slice none 0 0) (.slice none 0 0) w3/\li G 2 a/\li G 2 ahead/\(p.heap.size<bP\/B<=p)/\(p.heap.size<bM\/C<=p):=⟨[],none,0,[],none,0,M.heap.size,0,M.heap.size,0,⟨f,F3,O3,Sl.nil,Sl.nil,by omega,by omega,by omega,by omega,by omega,by omega,by omega,ae _⟩,.nil _ _,.nil _ _,.inr (nz _),.inr (nz _)⟩
 have a0:p.heap.size+1<=w3.heap.size:=by omega
 obtain⟨u,iy⟩:∃u,w3=u:=⟨_,rfl⟩
 rw[iy]at ak a0 ⊢;clear f F3 O3 z3 iy;obtain⟨a,D,E,ahead,v,z,bP,B,bM,C,T,hB,hA,a2,a3⟩:=ak;have HX:=J T;have eX:=J hB;have uu:=J hA;clear T hB hA;have ap:=HS.i;go_loopw [9] (λi wr=>∃(k:Nat) (o:List Int) (A:Option Addr) (c:Nat),k<=s.length/\i=.int .i64 k/\o.length=k/\wr.ownsRow u.heap.size aK 1 (A k c) k (aC o)/\Hid (∀n∈o,In G n)/\Hid (RB w m fs lp u.heap.size M.heap.size p.heap.size F s (.slice (p,0) 1 1) 1 [F s.length O] bP B D E a bM C v z ahead (A k c) (.slice none 0 0) wr)) (λi _=>s.length - (intOf i).toNat)
 case atStart=>exact⟨0,[],none,0,nz _,rfl,rfl,World.ownsRow_nil _ _ _ _,J (by simp),HX⟩
 case round=>
  obtain⟨d,rfl⟩:∃x,x=wr:=⟨_,rfl⟩
  obtain⟨k,o,A,c,hk,rfl,U,ho,I,b⟩:=hrel;have HO:=J ho;have HK:=J U;clear ho U;have c1:d.cell? (w.heap.size+1,1)=some (.slice (p,0) 1 1):=b.rs.cell 1;have a4:d.cell? (p,0)=some (F s.length O):=AY b.q;by_cases a5:k<s.length
  .have x3:d.cell? (w.heap.size+1,3)=some (A k c):=b.rs.cell 3;have jP:w.heap.size+1≠m:=by omega
   have dh:True:=trivial;go_wp2_with fail
   first|(go_region_with (go_at_call 29;have _t:=dh;refine(aA _ m fs lp G (by exact b.rs.b) h1 (by omega)).mono ?_;rintro e w3 ⟨x,hx,rfl,bK,l⟩;have zW:=dW l jP x3;have f:=b.drew.next q bK l;have MW:=f.rs.var.lt;have G5:=f.g.2.2.2.2.2.2.2;have o3:=(Sp.next b.drew.rs.b l).own (show d.drew.ownsRow u.heap.size aK 1 (A k c) k (aC o)from HO.out) (by decide);obtain⟨V,W,w9,X,x9,y9,aW,h9⟩:=f.more q iw (by decide) (by decide) (by decide) (j:=3) (ae _) G5 rfl o3 #[.int .i64 x] rfl (by simp[Value.oneCell']) (by omega);have mf:=J aW;have jl:=J h9;clear _t dh f o3 aW h9 bK l))|fail
   all_goals
    have rJ:=J (jl.q' q (V (k+1) W));have Y:(w9.setCell (w.heap.size+1,3) (V (k+1) W)).ownsRow u.heap.size aK 1 (V (k+1) W) (k+1) (aC (o++[(x:Int)])):=by have:=(Sp.set (m:=m) jl.rs.var (by omega) 3 (V (k+1) W)).own mf (by decide);simpa [aC,cI]using this
    have Z:Hid (∀n∈o++[(x:Int)],In G n):=J (λn L=>by
     rw[jp,js]at L;rcases L with L|rfl
     .exact I n L
     exact⟨by omega,by omega⟩)
    have aa:(o++[(x:Int)]).length=k+1:=by rw[la,HK.out];rfl
    have vO:=J Y;have aq:=J aa;clear Y aa X x9 y9 jl mf zW;go_wp2_with fail
    go_roundw
    case rel=>exact⟨k+1,o++[(x:Int)],V,W,by omega,by simp,aq,vO,Z,rJ⟩
    case measure=>simp[intOf];omega
  obtain rfl:k=s.length:=by omega
  have v0:d.cell? (w.heap.size+1,0)=some (D a.length E):=b.rs.cell 0;have v2:d.cell? (w.heap.size+1,2)=some (v ahead.length z):=b.rs.cell 2;have v3:d.cell? (w.heap.size+1,3)=some (A s.length c):=b.rs.cell 3;have v4:d.cell? (w.heap.size+1,4)=some (.slice none 0 0):=b.rs.cell 4;have v5:d.cell? (w.heap.size+1,5)=some (.int .i64 0):=b.rs.cell 5;have r0:d.cell? (w,0)=some (.slice none 0 0):=b.rs.c.cell 0;have r1:d.cell? (w,1)=some (.slice none 0 0):=b.rs.c.cell 1;have r2:d.cell? (w,2)=some (.slice none 0 0):=b.rs.c.cell 2;have r3:d.cell? (w,3)=some (.slice none 0 0):=b.rs.c.cell 3;have r4:d.cell? (w,4)=some (.slice none 0 0):=b.rs.c.cell 4;have r5:d.cell? (w,5)=some (.int .i64 0):=b.rs.c.cell 5;have f0:=b.rs.c.frozen 0;have f1:=b.rs.c.frozen 1;have f2:=b.rs.c.frozen 2;have f3:=b.rs.c.frozen 3;have f4:=b.rs.c.frozen 4;have f5:=b.rs.c.frozen 5;go_wp2_with fail
  obtain⟨b0,b1,b2,b3,b4,b5,b6,b7⟩:=b.g;have a1:=HK.out;have hr:mu G 5 ⟨a,[s],ahead,o,[],0⟩:=mu.mk' (eX.mono (by omega)) ((li.one HS).mono (by omega)) (uu.mono (by omega)) ⟨I,show o.length<=4 by omega⟩ (by simp) (show N9 0 from by unfold N9;omega) (λ_=>⟨s,rfl,a1⟩) (λh=>absurd h (by decide)) (λ_=>rfl) (λ_=>rfl);have ar:Fl gT 1 d (TS jQ w.heap.size d) [F s.length O] [s]:=Fl.one (R:=gT) ⟨F,O,rfl,il.J gS.ok b.set (by decide) (by omega)⟩ rfl;have ab:=b.rs;have ac:=HO.out;rw[<-a1]at ab ac;have t:=lu (G:=G) (gd:=5) (r:=⟨a,[s],ahead,o,[],0⟩) (A0:=D) (A1:=some ⟨p.heap.size,0,none⟩) (A2:=v) (A3:=A) (A4:=none) (c0:=E) (c1:=1) (c2:=z) (c3:=c) (c4:=0) ab q hr (show gN 0 from by unfold gN;omega) (il.J gT.ok b.fb (by decide) (by omega)) (dV b.q ar (by decide) (by omega) (by omega)) (il.J gT.ok b.fa (by decide) (by omega)) (dV ac (jW _ _ o (λn L=>In.i64 hG (I n L))) (by decide) (by omega) (by omega)) Sl.nil;simp only[a1]at t;exact bodyPost_ret (fA t.1 rfl rfl) rfl t.2
theorem Zk (m:Nat)(fs:Nat->Value)(lp:Int)(G:Nat)(Ag:Option Addr)(cg:Nat)(Ac:Option Addr)(nc cc:Nat)(h:Mk w m fs lp)(hf:fs 1= Ag G cg)(h1:1<=G)(hG:G<=1000):Calls Tryz.prog 76 #[.pointer (m,0),.int .i64 2,Ac nc cc] w (ng w m fs lp G 2):=by
 have p:=h.lt;have qg:w.cell? (m,3)=some (Ag G cg):=by have:=h.cells.1 1 (by omega);rw[hf]at this;exact this
 have H:=J h;have HF:=J hf;clear h hf;go_enter Tryz.func76,Tryz.ntmps76
 go_wp2_with fail
 obtain⟨M,N⟩:∃M,(w.alloc (.cells gU dD)).alloc (.cells gU dD)=M:=⟨_,rfl⟩
 have HR:Hid (RS w m fs lp gU M):=by rw[<-N];exact J (RS.begin H)
 have z0:M.heap.size=w.heap.size+2:=by rw[<-N];simp
 unfold gU at N;rw[N];clear N qg;refine(uj M m fs lp G Ag cg HR.b HF h1 hG).mono ?_;rintro e q ⟨s,a7,cs,hs,a6,rfl,aw,ay,ap⟩;have O:=J (HR.next ay ap);have xy:=J (il.of gS.ok aw);have HS:=J hs;have z1:=ap.size;have x1:q.cell? (w.heap.size+1,1)=some (.slice none 0 0):=O.cell 1;have y1:=O.var.frozen 1;have zr:=O.var.lt;clear aw ay ap HR hs;go_wp2_with fail
 obtain⟨W2,aq⟩:∃W2,(q.setCell (w.heap.size+1,1) (.slice (q,0) 1 1)).alloc (.cells #[a7 s.length cs] kl)=W2:=⟨_,rfl⟩
 rw[aq];obtain⟨aD,aE,aL,z2⟩:=O.tD p xy (by omega) (by omega) aq;have al:=J aD;have F2:=J aE;have O2:=J aL;clear aD aE aL aq x1 y1 O xy;go_wp2_with fail
 refine(aA W2 m fs lp 2 al.b (by omega) (by omega)).mono ?_;rintro e w3 ⟨y,hy,rfl,bK,l⟩;have qM:=al.next bK l;have aM:=il.next gS.ok F2 (by omega) l;have aN:=(Sp.next al.b l).own O2 (by decide);have z3:=l.size;have d:=J qM;have F3:=J aM;have O3:=J aN;clear qM aM aN bK l al F2 O2;by_cases y0:y=0
 .have e0:((y:Int)==0)=true:=by simp;omega
  clear y0;go_wp2_with fail
  refine(jg w3 m fs lp G Ag cg d.b HF h1 hG).mono ?_;rintro e w4 ⟨a,C,D,hB,rfl,aQ,aR,P⟩;have Q:=J (d.next aR P);have F4:=J (il.next gS.ok F3 (by omega) P);have O4:=J ((Sp.next d.b P).own O3 (by decide));have zZ:=J (il.of gT.ok aQ);have z4:=P.size;have x4:w4.cell? (w.heap.size+1,0)=some (.slice none 0 0):=Q.cell 0;have y4:=Q.var.frozen 0;clear aQ aR P d F3 O3;go_wp2_with fail
  obtain⟨W5,oz⟩:∃W5,w4.setCell (w.heap.size+1,0) (C a.length D)=W5:=⟨_,rfl⟩
  have uQ:=Q.put p 0 (C a.length D);have pI:=il.put gS.ok F4 (g:=w.heap.size+1) (.inl (by omega)) 0 (C a.length D);have uK:=il.put gT.ok zZ (g:=w.heap.size+1) (.inl (by omega)) 0 (C a.length D);have uN:=(Sp.set (m:=m) Q.var (by omega) 0 (C a.length D)).own O4 (by decide);have z5:W5.heap.size=w4.heap.size:=by rw[<-oz];simp
  rw[oz]at uQ pI uK uN ⊢;have oZ:=J uQ;have F5:=J pI;have Ad:=J uK;have O5:=J uN;clear uQ pI uK uN oz Q F4 O4 zZ x4 y4;refine(jg W5 m fs lp G Ag cg oZ.b HF h1 hG).mono ?_;rintro e w6 ⟨ahead,u,v,hA,rfl,a0,xO,K⟩;have kU:=J (oZ.next xO K);have F6:=J (il.next gS.ok F5 (by omega) K);have Ae:=J (il.next gT.ok Ad (by omega) K);have O6:=J ((Sp.next oZ.b K).own O5 (by decide));have zY:=J (il.of gT.ok a0);have z6:=K.size;have x6:w6.cell? (w.heap.size+1,2)=some (.slice none 0 0):=kU.cell 2;have y6:=kU.var.frozen 2;clear a0 xO K oZ F5 O5 Ad;go_wp2_with fail
  obtain⟨I,iy⟩:∃I,w6.setCell (w.heap.size+1,2) (u ahead.length v)=I:=⟨_,rfl⟩
  have uS:=kU.put p 2 (u ahead.length v);have qC:=il.put gS.ok F6 (g:=w.heap.size+1) (.inl (by omega)) 2 (u ahead.length v);have uM:=il.put gT.ok Ae (g:=w.heap.size+1) (.inl (by omega)) 2 (u ahead.length v);have uJ:=il.put gT.ok zY (g:=w.heap.size+1) (.inl (by omega)) 2 (u ahead.length v);have uO:=(Sp.set (m:=m) kU.var (by omega) 2 (u ahead.length v)).own O6 (by decide);have z7:I.heap.size=w6.heap.size:=by rw[<-iy];simp
  rw[iy]at uS qC uM uJ uO ⊢;have ao:∃(a:List (List Int)) (C:Option Addr) (D:Nat) (ahead:List (List Int)) (u:Option Addr) (v:Nat) (bP z bM B:Nat),RB w m fs lp I.heap.size M.heap.size q.heap.size a7 s (.slice (q,0) 1 1) 1 [a7 s.length cs] bP z C D a bM B u v ahead (.slice none 0 0) (.slice none 0 0) I/\li G 2 a/\li G 2 ahead/\(q.heap.size<bP\/z<=q)/\(q.heap.size<bM\/B<=q):=⟨a,C,D,ahead,u,v,w3.heap.size,w4.heap.size,W5.heap.size,w6.heap.size,⟨uS,qC,uO,uM,uJ,by omega,by omega,by omega,by omega,by omega,by omega,by omega,ae _⟩,hB,hA,.inl (by omega),.inl (by omega)⟩
  clear uS qC uM uJ uO iy kU F6 Ae O6 zY x6 y6 hB hA z3 z4 z5 z6 z7;obtain⟨a,C,D,ahead,u,v,bP,z,bM,B,S,hB,hA,a2,a3⟩:=ao;have T:=J S;have eX:=J hB;have uu:=J hA;clear S hB hA;refine(aA I m fs lp 4 T.rs.b (by omega) (by omega)).mono ?_;rintro e Wl ⟨kk,a4,rfl,U,E⟩;have UU:=E.size;have QT:=J ((T.next p U E).rn UU (ae _));clear U E T;have T:=QT;clear QT;go_wp2_with fail
  go_loopw [11] (λi wr=>∃(k:Nat) (o:List Int) (A:Option Addr) (c:Nat),k<=kk/\i=.int .i64 k/\o.length=k/\wr.ownsRow Wl.heap.size aK 1 (A k c) k (aC o)/\Hid (∀n∈o,In G n)/\Hid (RB w m fs lp Wl.heap.size M.heap.size q.heap.size a7 s (.slice (q,0) 1 1) 1 [a7 s.length cs] bP z C D a bM B u v ahead (A k c) (.slice none 0 0) wr)) (λi _=>kk - (intOf i).toNat)
  case atStart=>exact⟨0,[],none,0,nz _,rfl,rfl,World.ownsRow_nil _ _ _ _,J (by simp),T⟩
  case round=>
   obtain⟨f,rfl⟩:∃x,x=wr:=⟨_,rfl⟩
   obtain⟨k,o,A,c,hk,rfl,V,ho,F,b⟩:=hrel;have HO:=J ho;have HK:=J V;clear ho V;by_cases a5:k<kk
   .have x3:f.cell? (w.heap.size+1,3)=some (A k c):=b.rs.cell 3;have jP:w.heap.size+1≠m:=by omega
    have dh:True:=trivial;go_wp2_with fail
    first|(go_region_with (go_at_call 29;have _t:=dh;refine(aA _ m fs lp G (by exact b.rs.b) h1 (by omega)).mono ?_;rintro e w3 ⟨x,hx,rfl,bK,l⟩;have zW:=dW l jP x3;have d:=b.drew.next p bK l;have MW:=d.rs.var.lt;have G5:=d.g.2.2.2.2.2.2.2;have o3:=(Sp.next b.drew.rs.b l).own (show f.drew.ownsRow Wl.heap.size aK 1 (A k c) k (aC o)from HO.out) (by decide);obtain⟨W,X,w9,Y,x9,y9,aW,h9⟩:=d.more p iw (by decide) (by decide) (by decide) (j:=3) (ae _) G5 rfl o3 #[.int .i64 x] rfl (by simp[Value.oneCell']) (by omega);have mf:=J aW;have jl:=J h9;clear _t dh d o3 aW h9 bK l))|fail
    all_goals
     have rJ:=J (jl.q' p (W (k+1) X));have Z:(w9.setCell (w.heap.size+1,3) (W (k+1) X)).ownsRow Wl.heap.size aK 1 (W (k+1) X) (k+1) (aC (o++[(x:Int)])):=by have:=(Sp.set (m:=m) jl.rs.var (by omega) 3 (W (k+1) X)).own mf (by decide);simpa [aC,cI]using this
     have aa:Hid (∀n∈o++[(x:Int)],In G n):=J (λn L=>by
      rw[jp,js]at L;rcases L with L|rfl
      .exact F n L
      exact⟨by omega,by omega⟩)
     have ab:(o++[(x:Int)]).length=k+1:=by rw[la,HK.out];rfl
     have vO:=J Z;have ar:=J ab;clear Z ab Y x9 y9 jl mf zW;go_wp2_with fail
     go_roundw
     case rel=>exact⟨k+1,o++[(x:Int)],W,X,by omega,by simp,ar,vO,aa,rJ⟩
     case measure=>simp[intOf];omega
   obtain rfl:k=kk:=by omega
   have v0:f.cell? (w.heap.size+1,0)=some (C a.length D):=b.rs.cell 0;have v1:f.cell? (w.heap.size+1,1)=some (.slice (q,0) 1 1):=b.rs.cell 1;have v2:f.cell? (w.heap.size+1,2)=some (u ahead.length v):=b.rs.cell 2;have v3:f.cell? (w.heap.size+1,3)=some (A k c):=b.rs.cell 3;have v4:f.cell? (w.heap.size+1,4)=some (.slice none 0 0):=b.rs.cell 4;have v5:f.cell? (w.heap.size+1,5)=some (.int .i64 0):=b.rs.cell 5;have r0:f.cell? (w,0)=some (.slice none 0 0):=b.rs.c.cell 0;have r1:f.cell? (w,1)=some (.slice none 0 0):=b.rs.c.cell 1;have r2:f.cell? (w,2)=some (.slice none 0 0):=b.rs.c.cell 2;have r3:f.cell? (w,3)=some (.slice none 0 0):=b.rs.c.cell 3;have r4:f.cell? (w,4)=some (.slice none 0 0):=b.rs.c.cell 4;have r5:f.cell? (w,5)=some (.int .i64 0):=b.rs.c.cell 5;have f0:=b.rs.c.frozen 0;have f1:=b.rs.c.frozen 1;have f2:=b.rs.c.frozen 2;have f3:=b.rs.c.frozen 3;have f4:=b.rs.c.frozen 4;have f5:=b.rs.c.frozen 5;go_wp2_with fail
   obtain⟨b0,b1,b2,b3,b4,b5,b6,b7⟩:=b.g;have ac:=HK.out;have hr:mu G 2 ⟨a,[s],ahead,o,[],0⟩:=mu.mk' (eX.mono (by omega)) ((li.one HS).mono (by omega)) (uu.mono (by omega)) ⟨F,show o.length<=4 by omega⟩ (by simp) (show N9 0 from by unfold N9;omega) (λh=>absurd h (by decide)) (λh=>absurd h (by decide)) (λ_=>rfl) (λ_=>rfl);have av:Fl gT 1 f (TS jQ w.heap.size f) [a7 s.length cs] [s]:=Fl.one (R:=gT) ⟨a7,cs,rfl,il.J gS.ok b.set (by decide) (by omega)⟩ rfl;have ad:=b.rs;have ak:=HO.out;rw[<-ac]at ad ak;have t:=lu (G:=G) (gd:=2) (r:=⟨a,[s],ahead,o,[],0⟩) (A0:=C) (A1:=some ⟨q.heap.size,0,none⟩) (A2:=u) (A3:=A) (A4:=none) (c0:=D) (c1:=1) (c2:=v) (c3:=c) (c4:=0) ad p hr (show gN 0 from by unfold gN;omega) (il.J gT.ok b.fb (by decide) (by omega)) (dV b.q av (by decide) (by omega) (by omega)) (il.J gT.ok b.fa (by decide) (by omega)) (dV ak (jW _ _ o (λn L=>In.i64 hG (F n L))) (by decide) (by omega) (by omega)) Sl.nil;simp only[ac]at t;exact bodyPost_ret (fA t.1 rfl rfl) rfl t.2
 have e0:((y:Int)==0)=false:=by simp;omega
 clear y0;go_wp2_with fail
 obtain⟨I,iy⟩:∃I,w3=I:=⟨_,rfl⟩
 subst iy;have ao:∃(a:List (List Int)) (C:Option Addr) (D:Nat) (ahead:List (List Int)) (u:Option Addr) (v:Nat) (bP z bM B:Nat),RB w m fs lp w3.heap.size M.heap.size q.heap.size a7 s (.slice (q,0) 1 1) 1 [a7 s.length cs] bP z C D a bM B u v ahead (.slice none 0 0) (.slice none 0 0) w3/\li G 2 a/\li G 2 ahead/\(q.heap.size<bP\/z<=q)/\(q.heap.size<bM\/B<=q):=⟨[],none,0,[],none,0,M.heap.size,0,M.heap.size,0,⟨d,F3,O3,Sl.nil,Sl.nil,by omega,by omega,by omega,by omega,by omega,by omega,by omega,ae _⟩,.nil _ _,.nil _ _,.inr (nz _),.inr (nz _)⟩
 have a1:q.heap.size+1<=w3.heap.size:=by omega
 obtain⟨I,iy⟩:∃I,w3=I:=⟨_,rfl⟩
 rw[iy]at ao a1 ⊢;clear d F3 O3 z3 iy;obtain⟨a,C,D,ahead,u,v,bP,z,bM,B,S,hB,hA,a2,a3⟩:=ao;have T:=J S;have eX:=J hB;have uu:=J hA;clear S hB hA;refine(aA I m fs lp 4 T.rs.b (by omega) (by omega)).mono ?_;rintro e Wl ⟨kk,a4,rfl,U,E⟩;have UU:=E.size;have QT:=J ((T.next p U E).rn UU (ae _));clear U E T;have T:=QT;clear QT;go_wp2_with fail
 go_loopw [11] (λi wr=>∃(k:Nat) (o:List Int) (A:Option Addr) (c:Nat),k<=kk/\i=.int .i64 k/\o.length=k/\wr.ownsRow Wl.heap.size aK 1 (A k c) k (aC o)/\Hid (∀n∈o,In G n)/\Hid (RB w m fs lp Wl.heap.size M.heap.size q.heap.size a7 s (.slice (q,0) 1 1) 1 [a7 s.length cs] bP z C D a bM B u v ahead (A k c) (.slice none 0 0) wr)) (λi _=>kk - (intOf i).toNat)
 case atStart=>exact⟨0,[],none,0,nz _,rfl,rfl,World.ownsRow_nil _ _ _ _,J (by simp),T⟩
 case round=>
  obtain⟨f,rfl⟩:∃x,x=wr:=⟨_,rfl⟩
  obtain⟨k,o,A,c,hk,rfl,V,ho,F,b⟩:=hrel;have HO:=J ho;have HK:=J V;clear ho V;by_cases a5:k<kk
  .have x3:f.cell? (w.heap.size+1,3)=some (A k c):=b.rs.cell 3;have jP:w.heap.size+1≠m:=by omega
   have dh:True:=trivial;go_wp2_with fail
   first|(go_region_with (go_at_call 29;have _t:=dh;refine(aA _ m fs lp G (by exact b.rs.b) h1 (by omega)).mono ?_;rintro e w3 ⟨x,hx,rfl,bK,l⟩;have zW:=dW l jP x3;have d:=b.drew.next p bK l;have MW:=d.rs.var.lt;have G5:=d.g.2.2.2.2.2.2.2;have o3:=(Sp.next b.drew.rs.b l).own (show f.drew.ownsRow Wl.heap.size aK 1 (A k c) k (aC o)from HO.out) (by decide);obtain⟨W,X,w9,Y,x9,y9,aW,h9⟩:=d.more p iw (by decide) (by decide) (by decide) (j:=3) (ae _) G5 rfl o3 #[.int .i64 x] rfl (by simp[Value.oneCell']) (by omega);have mf:=J aW;have jl:=J h9;clear _t dh d o3 aW h9 bK l))|fail
   all_goals
    have rJ:=J (jl.q' p (W (k+1) X));have Z:(w9.setCell (w.heap.size+1,3) (W (k+1) X)).ownsRow Wl.heap.size aK 1 (W (k+1) X) (k+1) (aC (o++[(x:Int)])):=by have:=(Sp.set (m:=m) jl.rs.var (by omega) 3 (W (k+1) X)).own mf (by decide);simpa [aC,cI]using this
    have aa:Hid (∀n∈o++[(x:Int)],In G n):=J (λn L=>by
     rw[jp,js]at L;rcases L with L|rfl
     .exact F n L
     exact⟨by omega,by omega⟩)
    have ab:(o++[(x:Int)]).length=k+1:=by rw[la,HK.out];rfl
    have vO:=J Z;have ar:=J ab;clear Z ab Y x9 y9 jl mf zW;go_wp2_with fail
    go_roundw
    case rel=>exact⟨k+1,o++[(x:Int)],W,X,by omega,by simp,ar,vO,aa,rJ⟩
    case measure=>simp[intOf];omega
  obtain rfl:k=kk:=by omega
  have v0:f.cell? (w.heap.size+1,0)=some (C a.length D):=b.rs.cell 0;have v1:f.cell? (w.heap.size+1,1)=some (.slice (q,0) 1 1):=b.rs.cell 1;have v2:f.cell? (w.heap.size+1,2)=some (u ahead.length v):=b.rs.cell 2;have v3:f.cell? (w.heap.size+1,3)=some (A k c):=b.rs.cell 3;have v4:f.cell? (w.heap.size+1,4)=some (.slice none 0 0):=b.rs.cell 4;have v5:f.cell? (w.heap.size+1,5)=some (.int .i64 0):=b.rs.cell 5;have r0:f.cell? (w,0)=some (.slice none 0 0):=b.rs.c.cell 0;have r1:f.cell? (w,1)=some (.slice none 0 0):=b.rs.c.cell 1;have r2:f.cell? (w,2)=some (.slice none 0 0):=b.rs.c.cell 2;have r3:f.cell? (w,3)=some (.slice none 0 0):=b.rs.c.cell 3;have r4:f.cell? (w,4)=some (.slice none 0 0):=b.rs.c.cell 4;have r5:f.cell? (w,5)=some (.int .i64 0):=b.rs.c.cell 5;have f0:=b.rs.c.frozen 0;have f1:=b.rs.c.frozen 1;have f2:=b.rs.c.frozen 2;have f3:=b.rs.c.frozen 3;have f4:=b.rs.c.frozen 4;have f5:=b.rs.c.frozen 5;go_wp2_with fail
  obtain⟨b0,b1,b2,b3,b4,b5,b6,b7⟩:=b.g;have ac:=HK.out;have hr:mu G 2 ⟨a,[s],ahead,o,[],0⟩:=mu.mk' (eX.mono (by omega)) ((li.one HS).mono (by omega)) (uu.mono (by omega)) ⟨F,show o.length<=4 by omega⟩ (by simp) (show N9 0 from by unfold N9;omega) (λh=>absurd h (by decide)) (λh=>absurd h (by decide)) (λ_=>rfl) (λ_=>rfl);have av:Fl gT 1 f (TS jQ w.heap.size f) [a7 s.length cs] [s]:=Fl.one (R:=gT) ⟨a7,cs,rfl,il.J gS.ok b.set (by decide) (by omega)⟩ rfl;have ad:=b.rs;have ak:=HO.out;rw[<-ac]at ad ak;have t:=lu (G:=G) (gd:=2) (r:=⟨a,[s],ahead,o,[],0⟩) (A0:=C) (A1:=some ⟨q.heap.size,0,none⟩) (A2:=u) (A3:=A) (A4:=none) (c0:=D) (c1:=1) (c2:=v) (c3:=c) (c4:=0) ad p hr (show gN 0 from by unfold gN;omega) (il.J gT.ok b.fb (by decide) (by omega)) (dV b.q av (by decide) (by omega) (by omega)) (il.J gT.ok b.fa (by decide) (by omega)) (dV ak (jW _ _ o (λn L=>In.i64 hG (F n L))) (by decide) (by omega) (by omega)) Sl.nil;simp only[ac]at t;exact bodyPost_ret (fA t.1 rfl rfl) rfl t.2
