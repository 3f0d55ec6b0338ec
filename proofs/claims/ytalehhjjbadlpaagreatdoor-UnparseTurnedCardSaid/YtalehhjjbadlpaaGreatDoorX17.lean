/- Lemmas. -/
import Derived.Test.YtalehhjjbadlpaaGreatDoorX10
import Derived.Sort.OwnSortedInts
set_option linter.all false
set_option maxRecDepth 100000
set_option maxHeartbeats 32000000
namespace Go.Proofs.YtalehhjjbadlpaaGreatDoor
open Go.RowKit
variable{w d W:World}{g a b:Nat}{m:List Value}(v:World){u:List (List P3)}{A t:Option Addr}{f:List (List Int)}{e o:List P3}{j:Array Value}{i:TypeId}{l:List Int}{D E F:Value}{h:Int}{q:P3}
section
attribute [-go_sem] Builtin.append_
theorem Kd (m:Nat)(fs:Nat->Value)(lp:Int)(G:Nat)(Ag:Option Addr)(cg:Nat)(Ac:Option Addr)(nc cc:Nat)(h:Mk v m fs lp)(hf:fs 1= Ag G cg)(h1:1<=G)(hG:G<=1000):Calls Tryz.prog 76 #[.pointer (m,0),.int .i64 3,Ac nc cc] v (ng v m fs lp G 3):=by
 have f:=h.lt;have qg:v.cell? (m,3)=some (Ag G cg):=by have:=h.cells.1 1 (by omega);rw[hf]at this;exact this
 have H:=J h;have HF:=J hf;clear h hf;go_enter Tryz.func76,Tryz.ntmps76
 go_wp2_with fail
 obtain⟨X,I⟩:∃X,(v.alloc (.cells gU dD)).alloc (.cells gU dD)=X:=⟨_,rfl⟩
 have HR:Hid (RS v m fs lp gU X):=by rw[<-I];exact J (RS.begin H)
 have z0:X.heap.size=v.heap.size+2:=by rw[<-I];simp
 unfold gU at I;rw[I];clear I qg;refine(uj X m fs lp G Ag cg HR.b HF h1 hG).mono ?_;rintro e k ⟨s,Y,cs,hs,aW,rfl,ao,ap,ab⟩;have aN:=J (HR.next ap ab);have xy:=J (il.of gS.ok ao);have HS:=J hs;have z1:=ab.size;have x1:k.cell? (v.heap.size+1,1)=some (.slice none 0 0):=aN.cell 1;have y1:=aN.var.frozen 1;have zr:=aN.var.lt;clear ao ap ab HR hs;go_wp2_with fail
 obtain⟨W2,ac⟩:∃W2,(k.setCell (v.heap.size+1,1) (.slice (k,0) 1 1)).alloc (.cells #[Y s.length cs] kl)=W2:=⟨_,rfl⟩
 rw[ac];obtain⟨aq,ar,av,z2⟩:=aN.tD f xy (by omega) (by omega) ac;have Z:=J aq;have F2:=J ar;have O2:=J av;clear aq ar av ac x1 y1 aN xy;go_wp2_with fail
 refine(aA W2 m fs lp 2 Z.b (by omega) (by omega)).mono ?_;rintro e w3 ⟨y,hy,rfl,bK,K⟩;have qM:=Z.next bK K;have aw:=il.next gS.ok F2 (by omega) K;have ay:=(Sp.next Z.b K).own O2 (by decide);have z3:=K.size;have E:=J qM;have F3:=J aw;have O3:=J ay;clear qM aw ay bK K Z F2 O2;by_cases y0:y=0
 .have e0:((y:Int)==0)=true:=by simp;omega
  clear y0;go_wp2_with fail
  refine(jg w3 m fs lp G Ag cg E.b HF h1 hG).mono ?_;rintro e w4 ⟨a,w,z,hB,rfl,aD,aE,L⟩;have M:=J (E.next aE L);have F4:=J (il.next gS.ok F3 (by omega) L);have O4:=J ((Sp.next E.b L).own O3 (by decide));have zZ:=J (il.of gT.ok aD);have z4:=L.size;have x4:w4.cell? (v.heap.size+1,0)=some (.slice none 0 0):=M.cell 0;have y4:=M.var.frozen 0;clear aD aE L E F3 O3;go_wp2_with fail
  obtain⟨W5,oz⟩:∃W5,w4.setCell (v.heap.size+1,0) (w a.length z)=W5:=⟨_,rfl⟩
  have uQ:=M.put f 0 (w a.length z);have pI:=il.put gS.ok F4 (g:=v.heap.size+1) (.inl (by omega)) 0 (w a.length z);have uK:=il.put gT.ok zZ (g:=v.heap.size+1) (.inl (by omega)) 0 (w a.length z);have uN:=(Sp.set (m:=m) M.var (by omega) 0 (w a.length z)).own O4 (by decide);have z5:W5.heap.size=w4.heap.size:=by rw[<-oz];simp
  rw[oz]at uQ pI uK uN ⊢;have oZ:=J uQ;have F5:=J pI;have Ad:=J uK;have O5:=J uN;clear uQ pI uK uN oz M F4 O4 zZ x4 y4;refine(jg W5 m fs lp G Ag cg oZ.b HF h1 hG).mono ?_;rintro e w6 ⟨ahead,p,t,hA,rfl,aL,xO,F⟩;have kU:=J (oZ.next xO F);have F6:=J (il.next gS.ok F5 (by omega) F);have Ae:=J (il.next gT.ok Ad (by omega) F);have O6:=J ((Sp.next oZ.b F).own O5 (by decide));have zY:=J (il.of gT.ok aL);have z6:=F.size;have x6:w6.cell? (v.heap.size+1,2)=some (.slice none 0 0):=kU.cell 2;have y6:=kU.var.frozen 2;clear aL xO F oZ F5 O5 Ad;go_wp2_with fail
  obtain⟨l,iy⟩:∃l,w6.setCell (v.heap.size+1,2) (p ahead.length t)=l:=⟨_,rfl⟩
  have uS:=kU.put f 2 (p ahead.length t);have qC:=il.put gS.ok F6 (g:=v.heap.size+1) (.inl (by omega)) 2 (p ahead.length t);have uM:=il.put gT.ok Ae (g:=v.heap.size+1) (.inl (by omega)) 2 (p ahead.length t);have uJ:=il.put gT.ok zY (g:=v.heap.size+1) (.inl (by omega)) 2 (p ahead.length t);have uO:=(Sp.set (m:=m) kU.var (by omega) 2 (p ahead.length t)).own O6 (by decide);have z7:l.heap.size=w6.heap.size:=by rw[<-iy];simp
  rw[iy]at uS qC uM uJ uO ⊢;have aa:∃(a:List (List Int)) (w:Option Addr) (z:Nat) (ahead:List (List Int)) (p:Option Addr) (t:Nat) (bP A bM B:Nat),RB v m fs lp l.heap.size X.heap.size k.heap.size Y s (.slice (k,0) 1 1) 1 [Y s.length cs] bP A w z a bM B p t ahead (.slice none 0 0) (.slice none 0 0) l/\li G 2 a/\li G 2 ahead/\(k.heap.size<bP\/A<=k)/\(k.heap.size<bM\/B<=k):=⟨a,w,z,ahead,p,t,w3.heap.size,w4.heap.size,W5.heap.size,w6.heap.size,⟨uS,qC,uO,uM,uJ,by omega,by omega,by omega,by omega,by omega,by omega,by omega,ae _⟩,hB,hA,.inl (by omega),.inl (by omega)⟩
  have aM:k.heap.size+1<=l.heap.size:=by omega
  clear uS qC uM uJ uO iy kU F6 Ae O6 zY x6 y6 hB hA z3 z4 z5 z6 z7;obtain⟨a,w,z,ahead,p,t,bP,A,bM,B,N,hB,hA,ad,ak⟩:=aa;have HX:=J N;have eX:=J hB;have uu:=J hA;clear N hB hA;have x1:l.cell? (v.heap.size+1,1)=some (.slice (k,0) 1 1):=HX.rs.cell 1;have jP:v.heap.size+1≠m:=by omega
  have dh:True:=trivial
  first|(go_region_with (go_at_call 119;have _t:=dh;refine(jg _ m fs lp G Ag cg (by exact HX.rs.b) HF h1 hG).mono ?_;rintro e wq ⟨q,Aq,cq,hq,rfl,BO,FK,o⟩;have UR:=dW o jP x1;have yU:=HX.drew.next f FK o;have zq:=o.size;obtain⟨A5,c5,w9,C,O,x9,y9,h9⟩:=yU.app (cq:=cq) f ⟨ae _,ad,ak⟩ (il.of gT.ok BO) (show k.heap.size<l.heap.size by omega) (ae _) (show v.heap.size+2<=l.heap.size by omega) (by have:=hq.i;omega);have oW:=J h9;have HQ:=J hq;clear _t dh yU h9 FK o BO hq))|fail
  all_goals
   obtain⟨Wy,Fh⟩:∃Wy,w9.setCell (v.heap.size+1,1) (A5 (1+q.length) c5)=Wy:=⟨_,rfl⟩
   rw[Fh]at oW ⊢;clear Fh O x9 y9 UR x1;go_wp2_with fail
   refine(aA Wy m fs lp G oW.rb.rs.b h1 (by omega)).mono ?_;rintro e c ⟨x,hx,rfl,P,D⟩;have KI:=J (oW.next f P D);clear P D;have v3:c.cell? (v.heap.size+1,3)=some (.slice none 0 0):=KI.rb.rs.cell 3;have y3:=KI.rb.rs.var.frozen 3;have aR:=KI.rb.rs.var.lt
   go_upto_region 33 with fail
   have Q:Below c (c.setCell (v.heap.size+1,3) (.slice (c,0) 1 1)) ((c.setCell (v.heap.size+1,3) (.slice (c,0) 1 1)).alloc (.cells #[x] aK)):=by have:=(gD (c.setCell (v.heap.size+1,3) (.slice (c,0) 1 1)).heap.size (c.setCell (v.heap.size+1,3) (.slice (c,0) 1 1))).alloc (ae _) (.cells #[x] aK);simpa using this
   have u:=KI.q' f (.slice (c,0) 1 1);have b:=u.below (w2:=(c.setCell (v.heap.size+1,3) (.slice (c,0) 1 1)).alloc (.cells #[x] aK)) (by simpa using Q);have i:=yQ (c.setCell (v.heap.size+1,3) (.slice (c,0) 1 1)) v.heap.size aK 1 1 #[x] (by simp;omega) rfl (by omega);simp only[World.size_setCell]at i;obtain⟨d,S⟩:∃d,(c.setCell (v.heap.size+1,3) (.slice (c,0) 1 1)).alloc (.cells #[x] aK)=d:=⟨_,rfl⟩
   rw[S]at b i ⊢;clear Q u S;have v0:d.cell? (v.heap.size+1,0)=some (w a.length z):=b.rb.rs.cell 0;have v1:d.cell? (v.heap.size+1,1)=some (A5 (1+q.length) c5):=b.rb.rs.cell 1;have v2:d.cell? (v.heap.size+1,2)=some (p ahead.length t):=b.rb.rs.cell 2;have v3:d.cell? (v.heap.size+1,3)=some (.slice (c,0) 1 1):=b.rb.rs.cell 3;have v4:d.cell? (v.heap.size+1,4)=some (.slice none 0 0):=b.rb.rs.cell 4;have v5:d.cell? (v.heap.size+1,5)=some (.int .i64 0):=b.rb.rs.cell 5;have r0:d.cell? (v,0)=some (.slice none 0 0):=b.rb.rs.c.cell 0;have r1:d.cell? (v,1)=some (.slice none 0 0):=b.rb.rs.c.cell 1;have r2:d.cell? (v,2)=some (.slice none 0 0):=b.rb.rs.c.cell 2;have r3:d.cell? (v,3)=some (.slice none 0 0):=b.rb.rs.c.cell 3;have r4:d.cell? (v,4)=some (.slice none 0 0):=b.rb.rs.c.cell 4;have r5:d.cell? (v,5)=some (.int .i64 0):=b.rb.rs.c.cell 5;have f0:=b.rb.rs.c.frozen 0;have f1:=b.rb.rs.c.frozen 1;have f2:=b.rb.rs.c.frozen 2;have f3:=b.rb.rs.c.frozen 3;have f4:=b.rb.rs.c.frozen 4;have f5:=b.rb.rs.c.frozen 5;go_wp2_with fail
   obtain⟨b0,b1,b2,b3,b4,b5,b6,b7⟩:=b.rb.g;have bq:=b.bq;have hr:mu G 3 ⟨a,[s]++q,ahead,[(x:Int)],[],0⟩:=mu.mk' (eX.mono (by omega)) ((li.one HS).app HQ) (uu.mono (by omega)) ⟨λn T=>by simp only[js]at T;subst T;exact⟨by omega,by omega⟩,by simp⟩ (by simp) (show N9 0 from by unfold N9;omega) (λh=>absurd h (by decide)) (λh=>absurd h (by decide)) (λ_=>rfl) (λ_=>rfl);have al:Fl gT 1 d (TS jQ v.heap.size d) ([Y s.length cs]++C) ([s]++q):=(Fl.one (R:=gT) ⟨Y,cs,rfl,il.J gS.ok b.rb.set (by decide) (by omega)⟩ rfl).append (b.fq.mono gT.ok (TR.ts (by decide) (by omega)));have U:([s]++q).length=1+q.length:=by simp;omega
   have V:=b.rb.rs;have W:=b.rb.q;rw[<-U]at V W;have j:=lu (G:=G) (gd:=3) (r:=⟨a,[s]++q,ahead,[(x:Int)],[],0⟩) (A0:=w) (A1:=A5) (A2:=p) (A3:=some ⟨c.heap.size,0,none⟩) (A4:=none) (c0:=z) (c1:=c5) (c2:=t) (c3:=1) (c4:=0) V f hr (show gN 0 from by unfold gN;omega) (il.J gT.ok b.rb.fb (by decide) (by omega)) (dV W al (by decide) (by omega) (by omega)) (il.J gT.ok b.rb.fa (by decide) (by omega)) (dV i (by simpa [aC,cI]using jW d (TS jQ v.heap.size d) [(x:Int)] (λn T=>by simp only[js]at T;subst T;exact In.i64 hG ⟨by omega,by omega⟩)) (by decide) (ae _) (by omega)) Sl.nil;simp only[U]at j;exact bodyPost_ret (fA j.1 rfl rfl) rfl j.2
 have e0:((y:Int)==0)=false:=by simp;omega
 clear y0;go_wp2_with fail
 obtain⟨l,iy⟩:∃l,w3=l:=⟨_,rfl⟩
 subst iy;have aa:∃(a:List (List Int)) (w:Option Addr) (z:Nat) (ahead:List (List Int)) (p:Option Addr) (t:Nat) (bP A bM B:Nat),RB v m fs lp w3.heap.size X.heap.size k.heap.size Y s (.slice (k,0) 1 1) 1 [Y s.length cs] bP A w z a bM B p t ahead (.slice none 0 0) (.slice none 0 0) w3/\li G 2 a/\li G 2 ahead/\(k.heap.size<bP\/A<=k)/\(k.heap.size<bM\/B<=k):=⟨[],none,0,[],none,0,X.heap.size,0,X.heap.size,0,⟨E,F3,O3,Sl.nil,Sl.nil,by omega,by omega,by omega,by omega,by omega,by omega,by omega,ae _⟩,.nil _ _,.nil _ _,.inr (nz _),.inr (nz _)⟩
 have aM:k.heap.size+1<=w3.heap.size:=by omega
 obtain⟨l,iy⟩:∃l,w3=l:=⟨_,rfl⟩
 rw[iy]at aa aM ⊢;clear E F3 O3 z3 iy;obtain⟨a,w,z,ahead,p,t,bP,A,bM,B,N,hB,hA,ad,ak⟩:=aa;have HX:=J N;have eX:=J hB;have uu:=J hA;clear N hB hA;have x1:l.cell? (v.heap.size+1,1)=some (.slice (k,0) 1 1):=HX.rs.cell 1;have jP:v.heap.size+1≠m:=by omega
 have dh:True:=trivial
 first|(go_region_with (go_at_call 119;have _t:=dh;refine(jg _ m fs lp G Ag cg (by exact HX.rs.b) HF h1 hG).mono ?_;rintro e wq ⟨q,Aq,cq,hq,rfl,BO,FK,o⟩;have UR:=dW o jP x1;have yU:=HX.drew.next f FK o;have zq:=o.size;obtain⟨A5,c5,w9,C,O,x9,y9,h9⟩:=yU.app (cq:=cq) f ⟨ae _,ad,ak⟩ (il.of gT.ok BO) (show k.heap.size<l.heap.size by omega) (ae _) (show v.heap.size+2<=l.heap.size by omega) (by have:=hq.i;omega);have oW:=J h9;have HQ:=J hq;clear _t dh yU h9 FK o BO hq))|fail
 all_goals
  obtain⟨Wy,Fh⟩:∃Wy,w9.setCell (v.heap.size+1,1) (A5 (1+q.length) c5)=Wy:=⟨_,rfl⟩
  rw[Fh]at oW ⊢;clear Fh O x9 y9 UR x1;go_wp2_with fail
  refine(aA Wy m fs lp G oW.rb.rs.b h1 (by omega)).mono ?_;rintro e c ⟨x,hx,rfl,P,D⟩;have KI:=J (oW.next f P D);clear P D;have v3:c.cell? (v.heap.size+1,3)=some (.slice none 0 0):=KI.rb.rs.cell 3;have y3:=KI.rb.rs.var.frozen 3;have aR:=KI.rb.rs.var.lt
  go_upto_region 33 with fail
  have Q:Below c (c.setCell (v.heap.size+1,3) (.slice (c,0) 1 1)) ((c.setCell (v.heap.size+1,3) (.slice (c,0) 1 1)).alloc (.cells #[x] aK)):=by have:=(gD (c.setCell (v.heap.size+1,3) (.slice (c,0) 1 1)).heap.size (c.setCell (v.heap.size+1,3) (.slice (c,0) 1 1))).alloc (ae _) (.cells #[x] aK);simpa using this
  have u:=KI.q' f (.slice (c,0) 1 1);have b:=u.below (w2:=(c.setCell (v.heap.size+1,3) (.slice (c,0) 1 1)).alloc (.cells #[x] aK)) (by simpa using Q);have i:=yQ (c.setCell (v.heap.size+1,3) (.slice (c,0) 1 1)) v.heap.size aK 1 1 #[x] (by simp;omega) rfl (by omega);simp only[World.size_setCell]at i;obtain⟨d,S⟩:∃d,(c.setCell (v.heap.size+1,3) (.slice (c,0) 1 1)).alloc (.cells #[x] aK)=d:=⟨_,rfl⟩
  rw[S]at b i ⊢;clear Q u S;have v0:d.cell? (v.heap.size+1,0)=some (w a.length z):=b.rb.rs.cell 0;have v1:d.cell? (v.heap.size+1,1)=some (A5 (1+q.length) c5):=b.rb.rs.cell 1;have v2:d.cell? (v.heap.size+1,2)=some (p ahead.length t):=b.rb.rs.cell 2;have v3:d.cell? (v.heap.size+1,3)=some (.slice (c,0) 1 1):=b.rb.rs.cell 3;have v4:d.cell? (v.heap.size+1,4)=some (.slice none 0 0):=b.rb.rs.cell 4;have v5:d.cell? (v.heap.size+1,5)=some (.int .i64 0):=b.rb.rs.cell 5;have r0:d.cell? (v,0)=some (.slice none 0 0):=b.rb.rs.c.cell 0;have r1:d.cell? (v,1)=some (.slice none 0 0):=b.rb.rs.c.cell 1;have r2:d.cell? (v,2)=some (.slice none 0 0):=b.rb.rs.c.cell 2;have r3:d.cell? (v,3)=some (.slice none 0 0):=b.rb.rs.c.cell 3;have r4:d.cell? (v,4)=some (.slice none 0 0):=b.rb.rs.c.cell 4;have r5:d.cell? (v,5)=some (.int .i64 0):=b.rb.rs.c.cell 5;have f0:=b.rb.rs.c.frozen 0;have f1:=b.rb.rs.c.frozen 1;have f2:=b.rb.rs.c.frozen 2;have f3:=b.rb.rs.c.frozen 3;have f4:=b.rb.rs.c.frozen 4;have f5:=b.rb.rs.c.frozen 5;go_wp2_with fail
  obtain⟨b0,b1,b2,b3,b4,b5,b6,b7⟩:=b.rb.g;have bq:=b.bq;have hr:mu G 3 ⟨a,[s]++q,ahead,[(x:Int)],[],0⟩:=mu.mk' (eX.mono (by omega)) ((li.one HS).app HQ) (uu.mono (by omega)) ⟨λn T=>by simp only[js]at T;subst T;exact⟨by omega,by omega⟩,by simp⟩ (by simp) (show N9 0 from by unfold N9;omega) (λh=>absurd h (by decide)) (λh=>absurd h (by decide)) (λ_=>rfl) (λ_=>rfl);have al:Fl gT 1 d (TS jQ v.heap.size d) ([Y s.length cs]++C) ([s]++q):=(Fl.one (R:=gT) ⟨Y,cs,rfl,il.J gS.ok b.rb.set (by decide) (by omega)⟩ rfl).append (b.fq.mono gT.ok (TR.ts (by decide) (by omega)));have U:([s]++q).length=1+q.length:=by simp;omega
  have V:=b.rb.rs;have W:=b.rb.q;rw[<-U]at V W;have j:=lu (G:=G) (gd:=3) (r:=⟨a,[s]++q,ahead,[(x:Int)],[],0⟩) (A0:=w) (A1:=A5) (A2:=p) (A3:=some ⟨c.heap.size,0,none⟩) (A4:=none) (c0:=z) (c1:=c5) (c2:=t) (c3:=1) (c4:=0) V f hr (show gN 0 from by unfold gN;omega) (il.J gT.ok b.rb.fb (by decide) (by omega)) (dV W al (by decide) (by omega) (by omega)) (il.J gT.ok b.rb.fa (by decide) (by omega)) (dV i (by simpa [aC,cI]using jW d (TS jQ v.heap.size d) [(x:Int)] (λn T=>by simp only[js]at T;subst T;exact In.i64 hG ⟨by omega,by omega⟩)) (by decide) (ae _) (by omega)) Sl.nil;simp only[U]at j;exact bodyPost_ret (fA j.1 rfl rfl) rfl j.2
def eU:Nat->List P3->List (List P3)->List P3->Option (List (List P3))
 |n,b,a,[]=>if n=3 then some (a++[b])else none
 |n,b,a,w::r=>
  if w.2.2≠[47]/\w.2.2≠[62]then eU n (b++[w]) a r
  else if(n<2/\w.2.2=[47])\/(n=2/\w.2.2=[62])then eU (n+1) [] (a++[b]) r else none
def mQ (a:List P3):Option (List (List P3)):=eU 0 [] [] a
theorem TY (n:Nat)(b:List P3)(a:List (List P3))(d:List P3):jA n (af b) (a.map af) (af d)=(eU n b a d).map (List.map af):=by
 induction d generalizing n b a with
 |nil=>
  show jA n (af b) (a.map af) []=_;rw[jA,eU];split
  .simp
  rfl
 |cons w r c=>
  show jA n (af b) (a.map af) (w.2.2::af r)=_;rw[jA,eU];split
  .have:=c n (b++[w]) a;rw[show af (b++[w])=af b++[w.2.2] by simp[af]]at this;exact this
  split
  .have:=c (n+1) [] (a++[b]);rw[ra]at this;exact this
  rfl
theorem Ve (a:List P3):rU (af a)=(mQ a).map (List.map af):=TY 0 [] [] a
theorem YZ (n:Nat)(b:List P3)(a:List (List P3))(l:List P3)(c:List (List P3))(i:n=a.length)(h:eU n b a l=some c):c.length=4/\∀r∈c,r∈a\/r.length<=b.length+l.length:=by
 induction l generalizing n b a with
 |nil=>
  rw[eU]at h;split at h
  .cases h;refine⟨by simp;omega,λr k=> ?_⟩;rcases jp.1 k with g|g
   .exact .inl g
   simp only[js]at g;subst g;exact .inr (by simp)
  cases h
 |cons w r j=>
  rw[eU]at h;split at h
  .obtain⟨d,e⟩:=j n (b++[w]) a i h;refine⟨d,λx f=>(e x f).imp id λg=> ?_⟩;simp only[aV,la,ln]at g ⊢;omega
  split at h
  .obtain⟨d,e⟩:=j (n+1) [] (a++[b]) (by simp[i]) h;refine⟨d,λx f=> ?_⟩;rcases e x f with g|g
   .rcases jp.1 g with g|g
    .exact .inl g
    simp only[js]at g;subst g;exact .inr (by omega)
   exact .inr (by simp only[aV,ln]at g ⊢;omega)
  cases h
theorem Vd (h:mQ e=some u):u.length=4/\∀r∈u,r.length<=e.length:=by obtain⟨b,c⟩:=YZ 0 [] [] e u rfl h;exact⟨b,λr d=>(c r d).elim (λg=>by simp at g) (λg=>by simpa using g)⟩
abbrev jD:TypeId:=183
abbrev yL:TypeId:=221
abbrev fE:TypeId:=101
def dS (a:List Value)(v:Value):Array Value:=(a++[v]++List.replicate (3 - a.length) (Value.slice none 0 0)).toArray
def vZ:Array Value:= #[.string ⟨#[47]⟩,.string ⟨#[47]⟩,.string ⟨#[62]⟩]
theorem V9 (a:List Value)(v:Value):(dS a v)[a.length]?=some v:=by simp[dS]
theorem Mb (a:List Value)(v u:Value):(dS a v).setIfInBounds a.length u=dS a u:=by simp[dS]
theorem Gc (a:List Value)(v:Value)(h:a.length<3):dS (a++[v]) (.slice none 0 0)=dS a v:=by
 unfold dS;congr 1
 have:3 - a.length=(3 - (a++[v]).length)+1:=by simp;omega
 rw[this,List.replicate_succ];simp
theorem If (e:List Value)(v:Value)(h:e.length<=3):∃a b c d,dS e v=#[a,b,c,d]:=by
 have f:(dS e v).toList.length=4:=by simp[dS];omega
 match g:(dS e v).toList,f with
 |[a,b,c,d],_=>exact⟨a,b,c,d,by rw[<-Array.toList_inj,g]⟩
def pB (w:World)(h:List P3)(k n:Nat)(g:World):Prop:=
 ∃b e a A c d,e.length=n/\b.length=n/\n<=3/\a.length<=k/\eU n a b (h.drop k)=mQ h/\Below w w d/\w.heap.size+1<d.heap.size/\RowsIn fE d e b/\d.grownBy g (some w.heap.size)/\
  g.ownsRow d.heap.size fE 3 (.slice A a.length c) a.length (dP a)/\Bk g w.heap.size jD (dS e (.slice A a.length c))/\Bk g (w.heap.size+1) yL vZ/\(∃f,Bk d w.heap.size jD f)
theorem pB.low {k n:Nat}(h:pB w o k n d):Below w w d:=by obtain⟨a,i,m,A,c,j,-,-,-,-,-,b,l,-,f,-⟩:=h;exact b.grown f b.size (λg e=>by cases e;exact ae _)
theorem RowsIn.qr {w':World}{c:List Value}(h:RowsIn fE w c u)(d:Bk w g i j)(f:w.grownBy w' (some g))(b:fE≠i):RowsIn fE w' c u:=h.kept λ_ _ _ t=>t.grown f (λP e=>by cases e;exact⟨j,i,d,b⟩)
theorem pB.more {w R h:World}{S:List P3}{k n:Nat}{b:List (List P3)}{m:List Value}{a:List P3}{A t:Option Addr}{c u:Nat}{d:World}{q:P3}(v:m.length=n)(D:b.length=n)(E:n<=3)(P:a.length<=k)(F:eU n a b (S.drop k)=mQ S)(G:Below w w d)(H:w.heap.size+1<d)(I:RowsIn fE d m b)
  (j:d.grownBy R (some w.heap.size)) (p:R.ownsRow d.heap.size fE 3 (A a.length c) a.length (dP a)) (x:Bk R w.heap.size jD (dS m (A a.length c))) (y:Bk R (w.heap.size+1) yL vZ)
  (Q:S[k]?=some q) (K:q.2.2≠[47]) (L:q.2.2≠[62]) (o:Obj) (M:h.ownsRow d.heap.size fE 3 (t (a.length+1) u) (a.length+1) (dP a++c3 q)) (l:(R.alloc o).grownBy h (Value.slice A a.length c).ownBlock) {r:Array Value} (z:Bk d w.heap.size jD r):
  pB w S (k+1) n (h.setCell (w,n) (t (a.length+1) u)):=by
 have f:=p.alloc o;have C:Bk h w.heap.size jD (dS m (A a.length c)):=Bk.grown (x.alloc o) l f (by decide);have N:Bk h (w.heap.size+1) yL vZ:=Bk.grown (y.alloc o) l f (by decide);have s:∀g,(Value.slice A a.length c).ownBlock=some g->d.heap.size<=g:=λg e=>(p.lt g e).1
 refine⟨b,m,a++[q],t,u,d,v,D,E,by simp;omega,?_,G,H,I,?_,?_,?_,Bk.I N (by simp) _,⟨r,z⟩⟩
 .rw[<-F,yH S k q Q,eU,if_pos ⟨K,L⟩]
 .have O:d.grownBy h (some w.heap.size):=⟨l.os.trans j.os,l.tape.trans j.tape,l.output.trans j.output,nt j.size (nt (by simp) l.size),λi hi B=>by
   refine((l.block i (by have:=j.size;simp;omega) λe=> ?_).trans (Below.heap_alloc _ _ _ (mz hi j.size))).trans (j.block i hi B);have:=s i e.symm;omega⟩
  exact dI O (fZ h (w,n) _)
 .rw[la,Df];have:dP [q]=c3 q:=by simp[dP]
  rw[this];exact uf M C (by decide) n _
 have:=C.set n (t (a.length+1) u);rw[<-v,Mb]at this;rw[la,<-v];exact this
theorem pB.next {w G o:World}{K:List P3}{k n:Nat}{b:List (List P3)}{m:List Value}{a:List P3}{A:Option Addr}{c:Nat}{f:World}{q:P3}(v:m.length=n)(x:b.length=n)(y:eU n a b (K.drop k)=mQ K)(p:Below w w f)(F:w.heap.size+1<f)(z:RowsIn fE f m b)
  (r:f.grownBy G (some w.heap.size)) (j:G.ownsRow f.heap.size fE 3 (A a.length c) a.length (dP a)) (d:Bk G w.heap.size jD (dS m (A a.length c))) (l:Bk G (w.heap.size+1) yL vZ) {s:Array Value} (t:Bk f w.heap.size jD s)
  (B:K[k]?=some q) (u:(n<2/\q.2.2=[47])\/(n=2/\q.2.2=[62])) (i:Below G G o):pB w K (k+1) (n+1) o:=by
 have C:=((z.qr t r (by decide)).snoc (jX j) (yP j)).below i;have H:=r.size;have I:=i.size;refine⟨b++[a],m++[A a.length c],[],none,0,o,by simp[v],by simp[x],by omega,by simp,?_,?_,by omega,C,World.grownBy.refl _ _,World.ownsRow_nil _ _ _ _,?_,l.keep (i.block _ l.lt),⟨_,d.keep (i.block _ d.lt)⟩⟩
 .rw[<-y,yH K k q B,eU,if_neg ?_,if_pos u];rintro⟨D,E⟩;rcases u with⟨_,h⟩|⟨_,h⟩
  .exact D h
  exact E h
 .exact((p.grown r p.size (λg e=>by cases e;exact ae _))).trans (i.mono (by omega))
 rw[ln,Gc _ _ (by omega)];exact d.keep (i.block _ d.lt)
def VH (w:World)(m:List P3)(e:Ending)(w':World):Prop:=
 Below w w w'/\∃b c d f g h i j c2 k l c3,match mQ m with
  |none=>e=.returned (.tuple #[.agg #[.slice b c d,.slice f g h,.slice i j c2,.slice k l c3],.bool false])
  |some a=>e=.returned (.tuple #[.agg #[.slice b c d,.slice f g h,.slice i j c2,.slice k l c3],.bool true])/\RowsIn fE w' [.slice b c d,.slice f g h,.slice i j c2,.slice k l c3] a
theorem Ma {k n:Nat}(c:eU n o u (e.drop k)=mQ e)(d:e.length<=k):mQ e=if n=3 then some (u++[o])else none:=by rw[<-c,sj d,eU]
theorem L' {k n:Nat}(c:eU n o u (e.drop k)=mQ e)(d:e[k]?=some q)(a:q.2.2=[47]\/q.2.2=[62])(f:¬((n<2/\q.2.2=[47])\/(n=2/\q.2.2=[62]))):mQ e=none:=by
 rw[<-c,yH e k q d,eU,if_neg ?_,if_neg f];rintro⟨g,i⟩;rcases a with h|h
 .exact g h
 exact i h
theorem pB.start (d:List P3):pB v d 0 0 ((v.alloc (.cells #[(),(),(),()] jD)).alloc (.cells #[.string ⟨#[47]⟩,.string ⟨#[47]⟩,.string ⟨#[62]⟩] yL)):=by
 have b:Bk (v.alloc (.cells #[(),(),(),()] jD)) v.heap.size jD (dS [] (.slice none 0 0)):=Bk.new _ _ _;have a:=b.alloc (.cells #[.string ⟨#[47]⟩,.string ⟨#[47]⟩,.string ⟨#[62]⟩] yL);have c:Bk ((v.alloc (.cells #[(),(),(),()] jD)).alloc (.cells #[.string ⟨#[47]⟩,.string ⟨#[47]⟩,.string ⟨#[62]⟩] yL)) (v.heap.size+1) yL vZ:=by have:=Bk.new (v.alloc (.cells #[(),(),(),()] jD)) yL vZ;simpa [vZ]using this
 refine⟨[],[],[],none,0,_,rfl,rfl,by omega,by simp,rfl,?_,by simp,RowsIn.nil _ _,World.grownBy.refl _ _,World.ownsRow_nil _ _ _ _,a,c,⟨_,a⟩⟩;exact((gD _ _).alloc (ae _) _).alloc (by simp) _
theorem RowsIn.qt (h:RowsIn i w m u):∀a∈m,∃A n c,a=.slice A n c:=by
 intro a e;obtain⟨t,hi⟩:=pn.1 e;have f:t<u.length:=by rw[<-h.1];exact(ll.1 hi).1
 obtain⟨A,k,c,d,-,-⟩:=h.2 t u[t] (jO f);rw[hi]at d;cases d;exact⟨A,k,c,rfl⟩
theorem OY (g:List Value)(A:Option Addr)(n c:Nat)(h:g.length<=3)(j:∀u∈g,∃A n c,u=Value.slice A n c):∃q k v r l c1 s m c2 t o c3,dS g (.slice A n c)=#[.slice q k v,.slice r l c1,.slice s m c2,.slice t o c3]:=by
 obtain⟨a,b,p,d,e⟩:=If g (.slice A n c) h;have f:∀u∈(dS g (.slice A n c)).toList,∃A n c,u=Value.slice A n c:=by
  intro u i;simp only[dS,jp,js,List.mem_replicate]at i;rcases i with(i|rfl)|⟨_,rfl⟩
  .exact j u i
  .exact⟨_,_,_,rfl⟩
  exact⟨_,_,_,rfl⟩
 rw[e]at f;obtain⟨q,k,v,rfl⟩:=f a (by simp);obtain⟨r,l,c1,rfl⟩:=f b (by simp);obtain⟨s,m,c2,rfl⟩:=f p (by simp);obtain⟨t,o,c3,rfl⟩:=f d (by simp);exact⟨_,_,_,_,_,_,_,_,_,_,_,_,e⟩
theorem UG {c:Value}(h:Bk W g i #[D,E,c,F]):Bk ((((W.setCell (g,0) D).setCell (g,1) E).setCell (g,2) c).setCell (g,3) F) g i #[D,E,c,F]:=by have:=(((h.set 0 D).set 1 E).set 2 c).set 3 F;simpa using this
theorem Oy (h:Below w w W)(e:w.heap.size<=g)(a b c d:Value):Below w w ((((W.setCell (g,0) a).setCell (g,1) b).setCell (g,2) c).setCell (g,3) d):=(((h.setCell e a).setCell e b).setCell e c).setCell e d
theorem Ek (g:Nat)(a b c d:Value):v.grownBy ((((v.setCell (g,0) a).setCell (g,1) b).setCell (g,2) c).setCell (g,3) d) (some g):=dI (dI (dI (fZ v (g,0) a) (fZ _ (g,1) b)) (fZ _ (g,2) c)) (fZ _ (g,3) d)
theorem N8:(Tryz.prog.info? jD).map (·.size)=some 4:=by kernel_rfl
theorem Bv {c v:Value}(f:Bk W g jD #[D,E,c,F])(h:j.getD 2 undef=.pointer (g,0))(i:j.getD 3 undef=v):(results Tryz.f102 j).run Tryz.prog W=.ok (.tuple #[.agg #[D,E,c,F],v]) W:=by rw[results_cell_tmp (fn:=Tryz.f102) (p:=2) (u:=3) (ty:=jD) rfl,h,i];have:=run_loadVar_row (P:=Tryz.prog) W g jD jD #[D,E,c,F] (0,0) _ f Tryz.underlying183 rfl (by rw[N8];rfl);simp[asAddr,Result.andThen,this]
theorem XV (A:Option Addr)(n c:Nat)(ws:List P3)(hr:i7 v fE A n 3 (dP ws))(hn:n<=1000000000):
  Calls Tryz.prog 102 #[A n c] v (VH v ws):=by
 have aD:=J hr.rd.Z;have HW:=J hr;have HS:=J (pB.start v ws);clear hr;go_enter Tryz.func102,Tryz.ntmps102
 go_wp2_with fail
 go_loopw [5,11] (λpv i wr=>∃k f:Nat,k<=n/\i=.int .i64 k/\pv=.int .i64 f/\pB v ws k f wr) (λ_ i _=>n - (intOf i).toNat)
 case atStart=>exact⟨0,0,by omega,rfl,rfl,HS⟩
 case round=>
  obtain⟨k,f,hk,rfl,rfl,al⟩:=hrel;have d:=al.low;obtain⟨ac,hs,l,A1,c1,Wo,w,H,h3,W,E,I,a4,C,F,g,a,j,a0,m⟩:=al;by_cases aE:k<n
  .obtain⟨b,o,x,y,z,rfl,hb,X,q1,q2,q3⟩:=HW.rd.rB aE;have p1:wr.cell? (b,o+k*3)=some (.int .i64 x):=((aj d).1 _ _ hb).trans q1;have p2:wr.cell? (b,o+k*3+1)=some (.int .i64 y):=((aj d).1 _ _ hb).trans q2;have p3:wr.cell? (b,o+k*3+2)=some (.string z):=((aj d).1 _ _ hb).trans q3;have a1:wr.cell? (v,f)=some (A1 l.length c1):=(a.cell f).trans (by rw[<-w];exact V9 hs _);have a2:v.heap.size<wr.heap.size:=a.lt;have a3:(f:Int)<4:=by omega
   by_cases G:z≠[47]/\z≠[62]
   .have e1:(z==[47])=false:=by simpa using G.1
    have e2:(z==[62])=false:=by simpa using G.2
    obtain⟨A5,c5,w9,ao,aW,ay,bF⟩:=jh Rb 96 (wr.alloc (.cells #[x,y,.string z] fE)) Wo.heap.size l.length c1 A1 (dP l) #[x,y,.string z] rfl (g.alloc _) (by simp[Value.oneCell']) (by omega) (by have:=F.size;simp;omega);have ad:(wr.alloc (.cells #[x,y,.string z] fE)).heap.size=wr.heap.size+1:=by simp
    rw[ad]at ao;have aL:=J (pB.more w H h3 W E I a4 C F g a j X G.1 G.2 _ aW ay m);have b9:Bk w9 v.heap.size jD (dS hs (A1 l.length c1)):=Bk.grown (a.alloc _) ay (g.alloc _) (by decide);have x9:w9.cell? (v,f)=some (A1 l.length c1):=(b9.cell f).trans (by rw[<-w];exact V9 hs _);have y9:=b9.frozen f;clear ad aW ay bF b9 w H W E I a4 C F g a j m G X d q1 q2 q3;go_wp2_with fail
    go_region
    all_goals
     go_wp2;go_roundw
     case rel=>exact⟨k+1,f,by omega,by simp,rfl,aL⟩
     case measure=>simp[intOf];omega
   have Y:z=[47]\/z=[62]:=by
    by_cases hz:z=[47]
    .exact .inl hz
    exact .inr (Classical.byContradiction λh=>G ⟨hz,h⟩)
   have Dz:Below v v (wr.alloc (.cells #[x,y,.string z] fE)):=d.alloc (by omega) _;have LC:f<3->wr.cell? (v.heap.size+1,f)=some (.string (if f<2 then [47]else [62]:B)):=λh=>by
    rw[j.cell f];have:f=0\/f=1\/f=2:=by omega
    rcases this with rfl|rfl|rfl<;>rfl
   obtain⟨K,L,M,N,O,p,P,Q,q,R,S,r,e⟩:=OY hs A1 l.length c1 (by omega) C.qt;have g0:wr.cell? (v,0)=some (K L M):=(a.cell 0).trans (by rw[e];rfl);have g1:wr.cell? (v,1)=some (N O p):=(a.cell 1).trans (by rw[e];rfl);have g2:wr.cell? (v,2)=some (P Q q):=(a.cell 2).trans (by rw[e];rfl);have g3:wr.cell? (v,3)=some (R S r):=(a.cell 3).trans (by rw[e];rfl);have gf:=a.frozen;have aM:=J Dz;by_cases Z:(f<2/\z=[47])\/(f=2/\z=[62])
   .have ap:f<3:=by rcases Z with⟨h,_⟩|⟨h,_⟩<;>omega
    have VY:=LC ap;have aN:v.heap.size+1<wr.heap.size:=j.lt;have HD:Hid (∀T,pB v ws (k+1) (f+1) ((wr.alloc (.cells #[x,y,.string z] fE)).drewN T)):=λT=>pB.next w H E I a4 C F g a j m X Z (below_drewN ((gD _ _).alloc (ae _) _) T)
    have aq:((f:Int)==3)=false:=by simp;omega
    rcases Z with⟨ar,rfl⟩|⟨rfl,rfl⟩
    .rw[if_pos ar]at VY;clear ar LC w H W E I a4 C F g a j m G X d Dz q1 q2 q3 Y e;go_wp2_with fail
     go_quiet (fail)
     go_wp2;go_roundw
     case rel=>exact⟨k+1,_,by omega,by simp,by simp,HD nq⟩
     case measure=>simp[intOf];omega
    rw[if_neg (by decide)]at VY;clear ap LC w H W E I a4 C F g a j m G X d Dz q1 q2 q3 Y e;go_wp2_with fail
    go_quiet (fail)
    go_wp2;go_roundw
    case rel=>exact⟨k+1,_,by omega,by simp,by simp,HD nq⟩
    case measure=>simp[intOf];omega
   have HN:=J (L' E X Y Z);have U:Hid (∀T,Bk ((wr.alloc (.cells #[x,y,.string z] fE)).drewN T) v.heap.size jD #[K L M,N O p,P Q q,R S r]):=λT=>by rw[<-e];exact a.alloc _
   have aa:(f=3/\(z=[47]\/z=[62]))\/(f<2/\z=[62])\/(f=2/\z=[47]):=by
    by_cases s:f=3
    .exact .inl ⟨s,Y⟩
    by_cases av:f=2
    .rcases Y with h|h
     .exact .inr (.inr ⟨av,h⟩)
     exact absurd (.inr ⟨av,h⟩) Z
    rcases Y with h|h
    .exact absurd (.inl ⟨by omega,h⟩) Z
    exact .inr (.inl ⟨by omega,h⟩)
   have aN:v.heap.size+1<wr.heap.size:=j.lt;have t:∀T D,D.getD 2 undef=.pointer (v,0)->D.getD 3 undef=.bool false->bodyPost Tryz.prog Tryz.f102 (VH v ws) Exit.ret ⟨D,[]⟩ (((((((wr.alloc (.cells #[x,y,.string z] fE)).drewN T).setCell (v,0) (K L M)).setCell (v,1) (N O p)).setCell (v,2) (P Q q)).setCell (v,3) (R S r))):=λT D t2 t3=>by
    refine bodyPost_ret (Bv (UG (U T)) t2 t3) rfl ⟨Oy (below_drewN aM T) (ae _) _ _ _ _,K,L,M,N,O,p,P,Q,q,R,S,r,?_⟩;rw[HN.out]
   have ab:=J t;rcases aa with⟨rfl,rfl|rfl⟩|⟨aQ,rfl⟩|⟨rfl,rfl⟩
   .skip
    clear t LC w H W E I a4 C F g a j m G X d Dz q1 q2 q3 Y e Z;go_wp2_with fail
    go_quiet (fail)
    go_wp2
    (try simp only[Exit.inBlock,Exit.then])
    exact ab nq _ rfl rfl
   .skip
    clear t LC w H W E I a4 C F g a j m G X d Dz q1 q2 q3 Y e Z;go_wp2_with fail
    go_quiet (fail)
    go_wp2
    (try simp only[Exit.inBlock,Exit.then])
    exact ab nq _ rfl rfl
   .skip
    have aq:((f:Int)==3)=false:=by simp;omega
    have VY:=LC (by omega);rw[if_pos aQ]at VY;clear t LC w H W E I a4 C F g a j m G X d Dz q1 q2 q3 Y e Z;go_wp2_with fail
    go_quiet (fail)
    go_wp2
    (try simp only[Exit.inBlock,Exit.then])
    exact ab nq _ rfl rfl
   skip
   have VY:=LC (by omega);rw[if_neg (by decide)]at VY;clear t LC w H W E I a4 C F g a j m G X d Dz q1 q2 q3 Y e Z;go_wp2_with fail
   go_quiet (fail)
   go_wp2
   (try simp only[Exit.inBlock,Exit.then])
   exact ab nq _ rfl rfl
  obtain rfl:k=n:=by omega
  have V:=Ma E (by rw[aD.out];exact ae _);obtain⟨K,L,M,N,O,p,P,Q,q,R,S,r,e⟩:=OY hs A1 l.length c1 (by omega) C.qt;have g0:wr.cell? (v,0)=some (K L M):=(a.cell 0).trans (by rw[e];rfl);have g1:wr.cell? (v,1)=some (N O p):=(a.cell 1).trans (by rw[e];rfl);have g2:wr.cell? (v,2)=some (P Q q):=(a.cell 2).trans (by rw[e];rfl);have g3:wr.cell? (v,3)=some (R S r):=(a.cell 3).trans (by rw[e];rfl);have gf:=a.frozen;have ak:Bk wr v.heap.size jD #[K L M,N O p,P Q q,R S r]:=by rw[<-e];exact a
  have U:=J ak;have vU:=J d;have u:f=3->RowsIn fE wr [K L M,N O p,P Q q,R S r] (ac++[l]):=λs=>by
   have:(dS hs (A1 l.length c1)).toList=hs++[A1 l.length c1]:=by simp[dS,w,s]
   rw[e]at this;have this:[K L M,N O p,P Q q,R S r]=hs++[A1 l.length c1]:=this;rw[this];exact(C.qr m F (by decide)).snoc (jX g) (yP g)
  have aR:=J u;have aw:=J V;by_cases s:f=3
  .have XB:Hid (mQ ws=some (ac++[l])):=by show _=_;rw[aw.out,if_pos s]
   subst s;clear u V ak e w H W E I a4 C F g a j m d;go_wp2_with fail
   (try simp only[Exit.inBlock,Exit.then])
   refine bodyPost_ret (Bv (UG U) rfl rfl) rfl ⟨Oy vU (ae _) _ _ _ _,K,L,M,N,O,p,P,Q,q,R,S,r,?_⟩;rw[XB.out];exact⟨rfl,(aR trivial).qr U (Ek _ _ _ _ _ _) (by decide)⟩
  have aq:((f:Int)==3)=false:=by simp;omega
  have XB:Hid (mQ ws=none):=by show _=_;rw[aw.out,if_neg s]
  clear u V ak e w H W E I a4 C F g a j m d s;go_wp2_with fail
  (try simp only[Exit.inBlock,Exit.then])
  refine bodyPost_ret (Bv (UG U) rfl rfl) rfl ⟨Oy vU (ae _) _ _ _ _,K,L,M,N,O,p,P,Q,q,R,S,r,?_⟩;rw[XB.out];rfl
end
section
open Go.Sort
theorem Ha (l:List Int):aC l=l.map (Value.int .i64):=by
 induction l with
 |nil=>rfl
 |cons x r a=>rw[Hh,a];rfl
theorem MU {w:World}{v g n c m:Nat}{e:TypeId}{x y:List Value}(h:w.ownsRow v e 1 (.slice (g,0) n c) n (x++y))(s:x.length=m)(j:m<=n):w.ownsRow v e 1 (.slice (g,0) m c) m x:=by
 rcases h.2 with⟨k,_⟩|⟨t,f,a,o,p,q,u,b,r,d⟩
 .cases k
 cases o;refine⟨by omega,.inr ⟨g,c,a,rfl,p,q,by omega,b,r,?_⟩⟩;have i:(a.toList.take (n*1)).take m=(x++y).take m:=by rw[d]
 rw[List.take_take,Nat.min_eq_left (by omega),List.take_append_of_le_length (by omega),oY (l:=x) (by omega)]at i;rw[Nat.mul_one];exact i
theorem Zt (A:Option Addr)(n c:Nat)(l:List Int)(T:Rd v g A n 1 (aC l))(hn:n<=1000000000):
  Calls Tryz.prog 142 #[A n c] v λe E=>∃r s,e=.returned (.slice r (setOf l).length s)/\E.ownsRow v.heap.size 3 1 (.slice r (setOf l).length s) (setOf l).length (aC (setOf l))/\Below v v E:=by
 have W:l.length=n:=by have:=T.1;simpa [Ha]using this
 rcases Nat.eq_zero_or_pos n with h0|h0
 .subst h0
  obtain rfl:l=[]:=List.eq_nil_of_length_eq_zero W;have hz:Hid (setOf []=[]):=rfl;have t:Hid (Calls Tryz.prog 111 #[A 0 c] v λe E=>∃r s,e=.returned (.slice r 0 s)/\E.ownsRow v.heap.size 3 1 (.slice r 0 s) 0 []/\Below v v E):=by
   show Calls _ _ _ _ _;cases A with
   |none=>refine(Tryz.slices_Clone_int_nil 0 c v).mono ?_;rintro e E ⟨rfl,rfl⟩;exact⟨none,0,rfl,World.ownsRow_nil _ _ _ _,gD _ _⟩
   |some a=>refine(Tryz.slices_Clone_int_zero a c v).mono ?_;rintro e E ⟨w,rfl,F,-,G⟩;obtain⟨r,s,rfl⟩:=mP F;exact⟨r,s,rfl,F,G⟩
  clear T hn W;go_enter Tryz.func142,Tryz.ntmps142
  go_wp2_with fail
  refine t.mono ?_;rintro e K ⟨r,s,rfl,F,G⟩;go_wp2_with fail
  refine(Tryz.slices_Sort_int_none r s K).mono ?_;rintro e U ⟨rfl,rfl⟩;go_wp2_with fail
  refine(Tryz.slices_Compact_int_empty r s _).mono ?_;rintro e w3 ⟨rfl,rfl⟩;go_wp2;go_ret
  rw[hz.out];exact⟨r,s,rfl,F,G⟩
 obtain⟨b,o,rfl,X,N⟩:=T.2 h0;have t:=J (Tryz.slices_Clone_int b o n c l v (by omega) (by omega) (λj hj=>by
  refine N j _ ?_;rw[Ha,po,jO hj];simp[List.getD,jO hj]))
 subst W;rw[lf]at t;clear T X N;go_enter Tryz.func142,Tryz.ntmps142
 go_wp2_with fail
 refine t.mono ?_;rintro e K ⟨w,rfl,F,Y,G⟩;obtain⟨Bd,d,p,rfl,L,M,B,i,Z,u⟩:∃Bd d p,w=.slice (some ⟨Bd,0,none⟩) l.length d/\v.heap.size<=Bd/\K.heap[Bd]?=some (.cells p 3 (0,0))/\l.length<=d/\d<=maxLen/\p.size=d*1/\p.toList.take l.length=l.map (Value.int .i64):=by
  rcases F.2 with⟨_,h⟩|⟨Bd,d,p,hv,L,M,B,i,Z,u⟩
  .omega
  exact⟨Bd,d,p,hv,L,M,B,i,Z,by rw[Nat.mul_one]at u;exact u⟩
 have aa:Bd<K.heap.size:=(mq.1 M).1;have hH:=holds_of_blockI M u;have z:=J (Tryz.slices_Sort_int Bd 0 d l K hH aa (by omega));clear Y F;go_wp2_with fail
 refine z.mono ?_;rintro e U ⟨rfl,q,os,O⟩;have H:(l.mergeSort λx y=>decide (x<=y)).length=l.length:=List.length_mergeSort _;have I:=ownsRow_sortedI (base:=v.heap.size) (n:=q) (os:=os) H L M B i Z;have C:=grownBy_sortedI (w:=K) (g:=Bd) (n:=q) (os:=os) (l.mergeSort λx y=>decide (x<=y)).toArray;rw[<-O]at I C;have ab:=Qe l;generalize (l.mergeSort λx y=>decide (x<=y))=ms at*
 obtain⟨V,P,ac,ad⟩:∃V,U.heap[Bd]?=some (.cells V 3 (0,0))/\V.size=d*1/\V.toList.take ms.length=ms.map (Value.int .i64):=by
  rcases I.2 with⟨h,_⟩|⟨g',ar,Q,hv,-,ak,-,-,al,R⟩
  .cases h
  cases hv;exact⟨Q,ak,al,by rw[Nat.mul_one]at R;rw[H];exact R⟩
 have f:=Tryz.slices_Compact_int Bd 0 d ms U (holds_of_blockI P ad) (by omega) (by omega);rw[ab,H]at f;have ao:=J f;have ap:=PE l;clear z t f O M u hH;go_wp2_with fail
 refine ao.mono ?_;rintro e w3 ⟨rfl,q3,S⟩;have aq:(setOf l++List.replicate (l.length - (setOf l).length) 0).length=l.length:=by simp;omega
 have D:=ownsRow_sortedI (base:=v.heap.size) (n:=q3) (os:= #[]) aq L P B i ac;have av:=grownBy_sortedI (w:=U) (g:=Bd) (n:=q3) (os:= #[]) (setOf l++List.replicate (l.length - (setOf l).length) 0).toArray;rw[grow_empty,<-S]at D av;rw[ra,<-Ha]at D;have Ho:=J (MU (m:=(setOf l).length) D (by simp[Ha]) ap);have Hb:=J ((G.grown C G.size (λk e=>by cases e;exact L)).grown av (nt G.size C.size) (λk e=>by cases e;exact L));clear D av S I C;go_wp2;go_ret
 exact⟨_,_,rfl,Ho,Hb⟩
end
def aS (c:Gl)(a:List (B×List Int))(b:Int)(l:List (List B)):Int×List (List Int):=l.foldl (λq x=>((bC c a q.1 [] x).1,q.2++[(bC c a q.1 [] x).2])) (b,[])
theorem Us (c:Gl)(a:List (B×List Int))(b:Int)(l:List (List B))(x:List B):aS c a b (l++[x])=((bC c a (aS c a b l).1 [] x).1,(aS c a b l).2++[(bC c a (aS c a b l).1 [] x).2]):=by unfold aS;rw[xD];rfl
theorem Bz (d:Gl)(a:List (B×List Int))(b:Int)(l:List (List B)):(aS d a b l).2.length=l.length:=by
 suffices h:∀q:Int×List (List Int),(l.foldl (λq x=>((bC d a q.1 [] x).1,q.2++[(bC d a q.1 [] x).2])) q).2.length=q.2.length+l.length by have:=h (b,[]);simpa [aS]using this
 induction l with
 |nil=>intro q;rfl
 |cons x r c=>intro q;rw[o0,c];simp;omega
def IB (b:Nat)(w:World):Bs:=λg=>b<=g/\∃a,Bk w g 3 a
theorem IB.keep {w':World}{row:Option Nat}(i:w.grownBy w' row)(j:∀m,row=some m->∃t a,Bk w m t a/\t≠3):Same (IB g w) w w'/\∀m,IB g w m->IB g w' m:=by
 have h:Same (IB g w) w w':=λb ⟨_,a,d⟩=>i.block b d.lt λe=>by
  obtain⟨t,f,k,l⟩:=j b e.symm;exact l (dw k d).1
 exact⟨h,λm c=>⟨c.1,by obtain⟨a,d⟩:=c.2;exact⟨a,d.keep (h m c)⟩⟩⟩
theorem Fl.ib {w':World}{row:Option Nat}(h:Fl gT 1 w (IB g w) m f)(b:w.grownBy w' row)(c:∀d,row=some d->∃t a,Bk w d t a/\t≠3):Fl gT 1 w' (IB g w') m f:=(h.keep gT.ok (IB.keep b c).1).mono gT.ok (IB.keep b c).2
theorem WZ {c:Nat}(d:w.ownsRow a 3 1 (A l.length c) l.length (aC l))(f:∀x∈l,gN x)(h:g<=a):gT w (IB g w) [A l.length c] l:=by refine⟨A,c,rfl,Sl.pk d (FU w (IB g w) l f) (λj e=> ?_) (by decide)⟩;obtain⟨b,i⟩:=dY d e;exact⟨nt h (d.lt j e).1,b,i⟩
def tt (w:World)(b p:Nat)(e:Int)(n:Nat)(a:List (List Int))(v:Value)(f:World):Prop:=∃A c d,v=.slice A n c/\f.ownsRow w.heap.size 22 1 (.slice A n c) n d/\Fl gT 1 f (IB w.heap.size f) d a/\i8 f b p e/\w.grownBy f (some b)
theorem tt.next {w I d K:World}{f p:Nat}{B h:Int}{n:Nat}{a:List (List Int)}{l:List Int}{A L j:Option Addr}{c c5 k:Nat}{m:List Value}(o:I.ownsRow w.heap.size 22 1 (A n c) n m)(C:Fl gT 1 I (IB w.heap.size I) m a)(v:i8 I f p B)(y:w.grownBy I (some f))
  (z:d.ownsRow I.heap.size 3 1 (L l.length c5) l.length (aC l)) (D:∀x∈l,gN x) (E:i8 d f p h) (q:I.grownBy d (some f)) (F:K.ownsRow w.heap.size 22 1 (j (n+1) k) (n+1) (m++[L l.length c5])) (i:d.grownBy K (Value.slice A n c).ownBlock):
  tt w f p h (n+1) (a++[l]) (j (n+1) k) K:=by
 have r:=o.kept q (dC o v (by decide));have s:∀g,(Value.slice A n c).ownBlock=some g->∃t b,Bk d g t b/\t≠3:=λg e=>by
  obtain⟨b,G⟩:=dY r e;exact⟨_,b,G,by decide⟩
 have H:=(C.ib q (λg e=>by cases e;exact⟨_,_,v,by decide⟩)).ib i s;have u:=z.kept i (px z r (by decide));refine⟨j,k,_,rfl,F,H.snoc (R:=gT) (WZ u D y.size) rfl,Bk.grown E i r (by decide),O9 (dI y q) i (λg e=>(o.lt g e).1)⟩
theorem M' {p:Nat}{n k:Nat}(q:i7 w 96 A n 1 m)(c:RowsIn fE w m u)(s:i8 w g p h)(t:w.grownBy d (some g))(y:k<n):
  ∃b o r x E j,A=some ⟨b,o,none⟩/\Hid (u[k]?=some r)/\b<d/\d.cell? ⟨b,o+k,none⟩=some (.slice x E j)/\i7 d fE x E 3 (dP r)/\E=r.length:=by
 obtain⟨b,o,l,e,i,z⟩:=q.2 (by omega);have B:m.length=n:=by have:=q.1;omega
 have f:k<u.length:=by rw[<-c.1,B];exact y
 obtain⟨x,E,j,C,v,-⟩:=c.2 k _ (jO f);have a:Bk d b 96 l:=Bk.L t i (λD=>by
  subst D;have:=(dw i s).1
  revert this
  decide)
 exact⟨b,o,u[k],x,E,j,e,jO f,a.lt,(a.cell _).trans (z k _ C),Og v s t,v.rd.Z.symm⟩
def aT (a:List (List P3)):List (List B):=a.map af
theorem ZA {k:Nat}(h:u[k]?=some e):(aT u).take (k+1)=(aT u).take k++[af e]:=by unfold aT;rw[pm,po,h];rfl
theorem ph.reader {w':World}{p c:Nat}{i:Gl}{d:List (B×List Int)}(b:ph w p c g i d)(e:i8 w a p h)(f:w.grownBy w' (some a)):ph w' p c g i d:=b.grown e f
theorem r' (t p U cm:Nat)(gl:Gl)(d:List (B×List Int))(f:Int)(A:Option Addr)(n c:Nat)(a:List (List P3))(H:List Value)(V:i8 v t p f)(W:ph v p U cm gl d)(g:i7 v 96 A n 1 H)(j:RowsIn fE v H a)(hn:n<=1000000000)(X:∀r∈a,r.length<=1000000000)(Y:∀I l,∀x∈(bC gl d I [] l).2,gN x):
  Calls Tryz.prog 104 #[.pointer (t,0),A n c] v λe w'=>∃w,e=.returned w/\tt v t p (aS gl d f (aT a)).1 n (aS gl d f (aT a)).2 w w':=by
 have h:H.length=n:=by have:=g.1;omega
 have ad:=J (show a.length=n by rw[<-j.1];exact h);have K:=J V;have HP:=J W;have HW:=J g;have ZW:=J j;have HL:=J X;have HI:=J Y;clear V W g j X Y h;go_enter Tryz.func104,Tryz.ntmps104
 go_wp2;go_loopw [5,10] (λw i wr=>∃k:Nat,k<=n/\i=.int .i64 k/\tt v t p (aS gl d f ((aT a).take k)).1 k (aS gl d f ((aT a).take k)).2 w wr) (λ_ i _=>n - (intOf i).toNat)
 case atStart=>exact⟨0,nz _,rfl,none,0,[],rfl,World.ownsRow_nil _ _ _ _,Fl.nil,K,World.grownBy.refl _ _⟩
 case round=>
  obtain⟨k,hk,rfl,Z,c4,u,rfl,F,G,g,s⟩:=hrel;by_cases L:k<n
  .obtain⟨b,o,r,Ar,kr,cr,rfl,M,aa,q1,y,z⟩:=M' HW ZW K s L;have N:kr<=1000000000:=by rw[z];exact HL r (kj M)
   have C:=ZA M;have O:=J (Us gl d f ((aT a).take k) (af r));rw[<-C]at O;have D:=J g;have P:=J G;have HG:=J s;have Wu:=HI (aS gl d f ((aT a).take k)).1 (af r);have m:=J (AE wr t p U cm gl d (aS gl d f ((aT a).take k)).1 Ar kr cr r g (HP.reader K s) y N);have ab:=s.size;generalize (aS gl d f ((aT a).take k)).1=I at*
   generalize (aS gl d f ((aT a).take k)).2=Q at*
   generalize hq:bC gl d I [] (af r)=qq at*
   obtain⟨Ey,E⟩:=qq;have R:Hid (aS gl d f ((aT a).take (k+1))=(Ey,Q++[E])):=by show _=_;rw[O.out]
   have QG:=J Wu;clear M C O g y z G s Wu hq;go_wp2_with (first
    |(go_at_call 96;refine m.mono ?_;rintro e w1 ⟨w,rfl,A5,c5,rfl,AQ,qP,q⟩;have z1:=q.size)
    |(at_builtin;refine jr LV rfl (.tmp 14) (.tmp 18) rfl w1 _ rfl v.heap.size k c4 Z u #[A5 E.length c5] rfl rfl rfl (F.kept q (dC F D (by decide))) (by simp[Value.oneCell']) (by omega) (by omega) ?_;intro A6 c6 w2 S T _))
   go_roundw
   case rel=>exact⟨k+1,by omega,by simp,by rw[R.out];exact tt.next F P D HG AQ QG qP q S T⟩
   case measure=>simp[intOf];omega
  obtain rfl:k=n:=by omega
  have ht:Hid ((aT a).take k=aT a):=by show _=_;exact oY (by rw[aT,lE,ad.out];exact ae _)
  rw[ht.out]at G g;go_wp2;go_ret
  exact⟨_,rfl,Z,c4,u,rfl,F,G,g,s⟩
section
open Go.Shelf Go.Sort
def lg (l:List Int):B:=if l.isEmpty then []else aJ oO (l.map ag)
theorem RU (f:iu):mD f=aJ nN [ag f.gt]++f.gM.flatMap fD++f.d'.flatMap dF++lg f.gP++f.fY.flatMap iL++f.ga.flatMap (eF f.ga)++f.f6.flatMap (lF f.ga)++f.ge.flatMap (eu f.ga)++f.a'.flatMap jw:=rfl
def U' (l:List Value)(i:Nat):Value:=l.getD i undef
theorem Yf (a:List hU)(x:hU):1<=(eF a x).length:=by rw[Fb];have:1<=(uv x).length:=kE _ _;simp only[la];omega
theorem LA (a:List hU)(x:hU):x.gR.length<=(eF a x).length:=by
 rw[Fb];simp only[la];unfold Ib;split
 .rename_i h;have:x.gR=[]:=by simpa using h
  rw[this];simp
 have:=mO qG (x.gR.map dO);rw[lE]at this;omega
theorem GD {α:Type}(f:α->B)(l:List α)(x:α)(h:x∈l):(f x).length<=(l.flatMap f).length:=by obtain⟨k,a⟩:=pn.1 h;have:=bU f l k x a;omega
theorem U8 (a:List hU)(x:gH):1<=(eu a x).length:=by unfold eu;have:=kE iW (pick aH x.gd::if x.nj then [fO]else []);rw[la];omega
theorem UJ {H:Array Oper}{o:Oper}{a:Act}{K:Act->World->Prop}{Q:Exit->Act->World->Prop}{E:Prop}(i:o.guard=none)(s x:Operand)
  (q:o.op=.call {callee:= .builtin .append,args:= #[s,x],argTypes:= #[43,43]})
  (b:World) (D n c:Nat) (A:Option Addr) (I:List Value) (L:Nat) (G:Option Addr) (m c2:Nat) (F:List B) (r:a.eval s= A n c) (t:a.eval x= G m c2)
  (d:b.ownsRow D 9 1 (A n c) n I) (u:Rd b L G m 1 (strs F)) (z:n+m<=1000000000000) (v:D<=b)
  (h:∀f g w',w'.ownsRow D 9 1 (.slice f (n+m) g) (n+m) (I++strs F)->b.grownBy w' (Value.slice A n c).ownBlock->K (a.put o.dst (.slice f (n+m) g)) w'):
  if Region.wanted o (yielded H a.tmps)=true then Oper.wp Tryz.prog o a b K Q else E:=by
 obtain⟨w,j,k,l,p⟩:=info_parts Ic;refine mY _ i s x 43 q D 9 w _ 1 16 Tryz.underlying43 j k l p rfl (by decide) (A n c) n I r d L G m c2 (strs F) t u (J3 F) (by simp only[maxLen];omega) (by omega) v ?_;intro C w' e y _;obtain⟨f,g,rfl⟩:=DK e;exact h f g w' e y
theorem WP (a:Nat)(y:B)(h:a<=v):(v.alloc (.cells #[.string y] 9)).ownsRow a 9 1 (.slice (v,0) 1 1) 1 [.string y]:=⟨rfl,.inr ⟨v.heap.size,1,#[.string y],rfl,h,heap_alloc_new v _,ae _,by decide,rfl,rfl⟩⟩
theorem J1 {n:Nat}{o:Obj}(h:Rd w w.heap.size A n a m):Rd (w.alloc o) w.heap.size A n a m:=h.alloc (ae _) o
theorem Q4 {o:Obj}{n:Nat}(h:n<=w):n<=(w.alloc o).heap.size:=by simp;omega
theorem Nv (f:iu) A1 A2 A3 X A5 A6 A7 A8 c1 c2 c3 c4 c5 c6 c7 c8 (hT:iN v) (hG:nG<=v) (r0:gN f.gt) (s1:Sl iA 9 v (FT v) A1 f.ga) (s2:Sl kO 2 v (FT v) A2 f.f6) (s3:Sl jn 3 v (FT v) A3 f.ge) (s4:Sl kn 2 v (FT v) X f.a') (s5:Sl kI 4 v (FT v) A5 f.gM) (s6:Sl ko 1 v (FT v) A6 f.d') (s7:Sl kx 1 v (FT v) A7 f.fY) (s8:Sl gS 1 v (FT v) A8 f.gP)
  (hS:∀g∈f.ga,g.gk.length<=1000000000/\g.gO.length<=1000000000) (hL:(mD f).length<=1000000000):
  Calls Tryz.prog 10 #[.agg #[f.gt,A1 f.ga.length c1,A2 f.f6.length c2,A3 f.ge.length c3,X f.a'.length c4,A5 f.gM.length c5,A6 f.d'.length c6,A7 f.fY.length c7,A8 f.gP.length c8]] v λe w'=>e=.returned (.string (mD f))/\Below v v w':=by
 have HF:=J (RU f);rw[RU]at hL;obtain⟨I,Yk⟩:∃I,aJ nN [ag f.gt]=I:=⟨_,rfl⟩
 rw[Yk]at hL HF;have aD:=J Yk;have bw:I.length+(f.gM.flatMap fD).length+(f.d'.flatMap dF).length+(lg f.gP).length+(f.fY.flatMap iL).length+(f.ga.flatMap (eF f.ga)).length+(f.f6.flatMap (lF f.ga)).length+(f.ge.flatMap (eu f.ga)).length+(f.a'.flatMap jw).length<=1000000000:=by simp only[la]at hL;omega
 have aE:Hid (I++f.gM.flatMap fD++f.d'.flatMap dF++lg f.gP++f.fY.flatMap iL++f.ga.flatMap (eF f.ga)++f.f6.flatMap (lF f.ga)++f.ge.flatMap (eu f.ga)++f.a'.flatMap jw≠[]):=J (by
  intro h;have:=congrArg List.length h;rw[<-Yk]at this;have h2:=kE nN [ag f.gt];simp only[la,ln]at this;omega)
 clear Yk hL;have n1:f.ga.length<=10000000000:=by have:=nU (eF f.ga) (Yf f.ga) f.ga;omega
 have n2:f.f6.length<=10000000000:=by have:=nU (lF f.ga) (λ_=>kE _ _) f.f6;omega
 have n3:f.ge.length<=10000000000:=by have:=nU (eu f.ga) (U8 f.ga) f.ge;omega
 have n4:f.a'.length<=10000000000:=by have:=nU jw (λ_=>kE _ _) f.a';omega
 have n5:f.gM.length<=10000000000:=by have:=nU fD (λ_=>kE _ _) f.gM;omega
 have n6:f.d'.length<=10000000000:=by have:=nU dF (λ_=>kE _ _) f.d';omega
 have n7:f.fY.length<=10000000000:=by have:=nU iL (λ_=>kE _ _) f.fY;omega
 have ap:f.ga.length<=1000000000000:=by omega
 have hH:∀y∈f.ga,y.gR.length<=1000000000:=λy F=>by have h1:=LA f.ga y;have h2:=GD (eF f.ga) f.ga y F;omega
 have hS:=J hS;have hH:=J hH;go_enter Tryz.func10,Tryz.ntmps10
 go_upto_region 2 with fail
 obtain⟨K,ab⟩:∃K,(v.alloc (.cells #[f.gt,A1 f.ga.length c1,A2 f.f6.length c2,A3 f.ge.length c3,X f.a'.length c4,A5 f.gM.length c5,A6 f.d'.length c6,A7 f.fY.length c7,A8 f.gP.length c8] 32)).alloc (.cells #[f.gt,A1 f.ga.length c1,A2 f.f6.length c2,A3 f.ge.length c3,X f.a'.length c4,A5 f.gM.length c5,A6 f.d'.length c6,A7 f.fY.length c7,A8 f.gP.length c8,.pointer none,()] 108)=K:=⟨_,rfl⟩
 rw[ab];have ac:Below v v K:=by rw[<-ab];exact((gD _ _).alloc (ae _) _).alloc (by simp) _
 have B0:Bk K v.heap.size 32 #[f.gt,A1 f.ga.length c1,A2 f.f6.length c2,A3 f.ge.length c3,X f.a'.length c4,A5 f.gM.length c5,A6 f.d'.length c6,A7 f.fY.length c7,A8 f.gP.length c8]:=by rw[<-ab];exact(Bk.new _ _ _).alloc _
 have B1:Bk K (v.heap.size+1) 108 #[f.gt,A1 f.ga.length c1,A2 f.f6.length c2,A3 f.ge.length c3,X f.a'.length c4,A5 f.gM.length c5,A6 f.d'.length c6,A7 f.fY.length c7,A8 f.gP.length c8,.pointer none,()]:=by
  rw[<-ab];have:=Bk.new (v.alloc (.cells #[f.gt,A1 f.ga.length c1,A2 f.f6.length c2,A3 f.ge.length c3,X f.a'.length c4,A5 f.gM.length c5,A6 f.d'.length c6,A7 f.fY.length c7,A8 f.gP.length c8] 32)) 108 #[f.gt,A1 f.ga.length c1,A2 f.f6.length c2,A3 f.ge.length c3,X f.a'.length c4,A5 f.gM.length c5,A6 f.d'.length c6,A7 f.fY.length c7,A8 f.gP.length c8,.pointer none,()]
  rwa [World.size_alloc]at this
 obtain⟨M,aL⟩:∃M:Nat->Value,rm K (v.heap.size+1) M (.pointer none) (.slice none 0 0):=⟨U' [.int .i64 f.gt,A1 f.ga.length c1,A2 f.f6.length c2,A3 f.ge.length c3,X f.a'.length c4,A5 f.gM.length c5,A6 f.d'.length c6,A7 f.fY.length c7,A8 f.gP.length c8],B1⟩
 have z0:=ac.size;have aq:v.heap.size<=K.heap.size:=z0;have Q:Pr K v.heap.size (v.heap.size+1) M []:=⟨_,_,by omega,aL,.inl rfl,⟨rfl,.inl ⟨rfl,rfl⟩⟩⟩
 have U:PN K (v.heap.size+1) f.ga:=⟨A1,c1,B1.cell 1,(KP.below ac).sl iA.ok s1⟩
 have N:=KP.below ac;replace s1:=N.sl iA.ok s1;replace s2:=N.sl kO.ok s2;replace s3:=N.sl jn.ok s3;replace s4:=N.sl kn.ok s4;replace s5:=N.sl kI.ok s5;replace s6:=N.sl ko.ok s6;replace s7:=N.sl kx.ok s7;replace s8:=N.sl gS.ok s8;have V:K.cell? (v,0)=some (.int .i64 f.gt):=B0.cell 0;have aM:=J (bi K f.gt (hT.all ac) r0);have a3:([]:B).length+(aJ nN [ag f.gt]).length<=10000000000:=by rw[aD.out];simp only[ln];omega
 clear ab aL N;go_wp2_with (first
  |(go_at_call 20;refine aM.mono ?_;rintro e Y ⟨rfl,l⟩)
  |(go_at_call 19;refine(nC Y Y.heap.size 1 rfl v.heap.size (v.heap.size+1) M [] nN [ag f.gt] rfl (Q.below l) a3).mono ?_;rintro e W1 ⟨rfl,ar,av,aN⟩;have l5:W1.cell? (v,5)=some (A5 f.gM.length c5):=(av.bk (B0.below l) (by decide) (by decide)).cell 5))
 have c:Hid (vM v K v.heap.size (v.heap.size+1) M I W1):=by rw[aD.out]at ar;exact⟨ar,(KP.below l).trans av,ac.trans ((l.mono (by omega)).trans aN)⟩
 clear V aM ar av aN;have a4:W1.cell? (v,5)=some (A5 f.gM.length c5):=(c.2.1.bk B0 (by decide) (by decide)).cell 5;go_wp2_with fail
 go_loopw [30] (λi wr=>∃k:Nat,k<=f.gM.length/\i=.int .i64 k/\vM v K v.heap.size (v.heap.size+1) M (I++(f.gM.take k).flatMap fD) wr) (λi _=>f.gM.length - (intOf i).toNat)
 case atStart=>exact⟨0,nz _,rfl,by simpa using c.out⟩
 case round=>
  obtain⟨k,hk,rfl,d⟩:=hrel;clear a4 c;have a:KP K wr:=d.2.1;have R:=a.size;have c:=J d;by_cases q:k<f.gM.length
  .have Z:k<=10000000000:=nt (pl q) n5;have w:iN wr:=hT.below d.2.2 hG;have uP:PN wr (v.heap.size+1) f.ga:=U.kp Q d.1 a;have p:=d.1;have m:=a.sl kI.ok s5;clear d;obtain⟨b,o,y,rfl,-,F,V,q1,q2,q3,r1,r2,r3⟩:=m.qS q;have L:=J (cO fD f.gM k y F);have G:=bU fD f.gM k y F;have r:(I++(f.gM.take k).flatMap fD).length+(fD y).length<=10000000000:=by simp only[la];omega
   obtain⟨z,t,y2,y3⟩:=y;dsimp only at V q1 q2 q3 r1 r2 r3;have Dy:(I++(f.gM.take k).flatMap fD).length+(aJ wZ [z,ag t,ag y2,ag y3]).length<=10000000000:=r;clear F G r m;go_wp2_with fail
   obtain⟨u,bg⟩:∃u,wr.alloc (.cells #[.string z,t,y2,y3] 75)=u:=⟨_,rfl⟩
   rw[bg];have s:Below wr.heap.size wr u:=by rw[<-bg];exact(gD _ _).alloc (ae _) _
   have P:Bk u wr.heap.size 75 #[.string z,t,y2,y3]:=by rw[<-bg];exact Bk.new _ _ _
   clear bg V q1 q2 q3;have O:=w.all s;have zD:=p.below s;have v0:u.cell? ⟨wr.heap.size,0,none⟩=some (.string z):=P.cell 0;have v1:u.cell? ⟨wr.heap.size,1,none⟩=some (.int .i64 t):=P.cell 1;have v2:u.cell? ⟨wr.heap.size,2,none⟩=some (.int .i64 y2):=P.cell 2;have v3:u.cell? ⟨wr.heap.size,3,none⟩=some (.int .i64 y3):=P.cell 3
   go_region_held3 (λw'=>w'.cell? ⟨wr.heap.size,0,none⟩=some (.string z)/\w'.cell? ⟨wr.heap.size,1,none⟩=some (.int .i64 t)/\w'.cell? ⟨wr.heap.size,2,none⟩=some (.int .i64 y2)/\w'.cell? ⟨wr.heap.size,3,none⟩=some (.int .i64 y3))
    (first
     |exact⟨(j.bk (P.below D) (by decide) (by decide)).cell 0,(j.bk (P.below D) (by decide) (by decide)).cell 1,(j.bk (P.below D) (by decide) (by decide)).cell 2,(j.bk (P.below D) (by decide) (by decide)).cell 3⟩
     |exact⟨dE _ (ah D v0),dE _ (ah D v1),dE _ (ah D v2),dE _ (ah D v3)⟩
     |exact⟨ah D v0,ah D v1,ah D v2,ah D v3⟩
     |exact⟨ah x v0,ah x v1,ah x v2,ah x v3⟩
     |exact⟨ah A v0,ah A v1,ah A v2,ah A v3⟩
     |go_keep)
    (first
     |(go_at_call 20;refine(bi _ t O.drew r1).mono ?_;rintro e Y ⟨rfl,l⟩;have A:=lC l)
     |(go_at_call 20;refine(bi _ y2 (O.all A) r2).mono ?_;rintro e w2 ⟨rfl,aw⟩;have x:=bt A aw)
     |(go_at_call 20;refine(bi _ y3 (O.all x) r3).mono ?_;rintro e w3 ⟨rfl,a5⟩;have D:=bt x a5)
     |(go_at_call 19;refine(nC w3 w3.heap.size 4 rfl v.heap.size (v.heap.size+1) M _ wZ [z,ag t,ag y2,ag y3] rfl (zD.below D) Dy).mono ?_;rintro e wz ⟨rfl,H,j,C⟩))
   go_wp2;go_roundw
   case rel=>exact⟨k+1,by omega,by simp,by rw[L.out,<-mL];exact H,c.2.1.trans ((KP.below (bt s D)).trans j),c.2.2.trans (((bt s D).mono (by omega)).trans C)⟩
   case measure=>simp[intOf];omega
  obtain rfl:k=f.gM.length:=by omega
  rw[lf]at c;clear a R;have a6:wr.cell? (v,6)=some (A6 f.d'.length c6):=(c.2.1.bk B0 (by decide) (by decide)).cell 6;go_wp2_with fail
  go_loopw [52] (λi wr=>∃k:Nat,k<=f.d'.length/\i=.int .i64 k/\vM v K v.heap.size (v.heap.size+1) M (I++f.gM.flatMap fD++(f.d'.take k).flatMap dF) wr) (λi _=>f.d'.length - (intOf i).toNat)
  case atStart=>exact⟨0,nz _,rfl,by simpa using c.out⟩
  case round=>
   obtain⟨k,hk,rfl,d⟩:=hrel;clear a6 c;have a:KP K wr:=d.2.1;have R:=a.size;have c:=J d;by_cases q:k<f.d'.length
   .have Z:k<=10000000000:=nt (pl q) n6;have w:iN wr:=hT.below d.2.2 hG;have uP:PN wr (v.heap.size+1) f.ga:=U.kp Q d.1 a;have p:=d.1;have m:=a.sl ko.ok s6;clear d;obtain⟨b,o,y,E0,e0,rfl,-,F,V,j0⟩:=m.region q;have L:=J (cO dF f.d' k y F);have G:=bU dF f.d' k y F;have r:(I++f.gM.flatMap fD++(f.d'.take k).flatMap dF).length+(dF y).length<=10000000000:=by simp only[la];omega
    obtain⟨y⟩:=y;dsimp only at V j0;have ak:y.length<=10000000000:=by have h1:=J4 y;have h2:=mO kY (y.flatMap lK);have h3:dF ⟨y⟩=aJ kY (y.flatMap lK):=rfl;rw[h3]at G;omega
    have n:Below wr.heap.size wr (wr.alloc (.cells #[E0 y.length e0] 80)):=(gD _ _).alloc (ae _) _;have E:=KP.below n;have hR:=J (Fw _ v.heap.size (v.heap.size+1) M _ E0 e0 y (w.all n) (p.below n) (nt aq (nt R n.size)) (E.sl oT.ok j0) ak (nt r (by decide)));have KO:=J E;have KN:=J n;clear F G r m E n w uP p;go_wp2_with (go_at_call 21;refine hR.mono ?_;rintro e wz ⟨rfl,H,j,C⟩)
    go_roundw
    case rel=>exact⟨k+1,by omega,by simp,by rw[L.out,<-mL];exact H,c.2.1.trans (KO.trans j),c.2.2.trans ((KN.mono (by omega)).trans C)⟩
    case measure=>simp[intOf];omega
   obtain rfl:k=f.d'.length:=by omega
   rw[lf]at c;clear a R;have l8:wr.cell? (v,8)=some (A8 f.gP.length c8):=(c.2.1.bk B0 (by decide) (by decide)).cell 8
   go_upto_if 63 with fail
   go_cut [3,63]from 64 to 68 (λs3 _ wx=>s3=.pointer (v.heap.size+1,0)/\vM v K v.heap.size (v.heap.size+1) M (I++f.gM.flatMap fD++f.d'.flatMap dF++lg f.gP) wx)
   case first=>
    have d:=c.out;have a:KP K wr:=d.2.1;have R:=a.size;have w:iN wr:=hT.below d.2.2 hG;have p:=d.1;have m:=a.sl gS.ok s8;clear d;by_cases h0:f.gP=[]
    .have hz:lg f.gP=[]:=by rw[h0];rfl
     have a7:¬(0<f.gP.length):=by rw[h0];simp
     have Hz:=J hz;clear hz h0;go_wp2_with fail
     go_meet
     rw[Hz.out,pp];exact⟨rfl,c⟩
    have hz:lg f.gP=aJ oO (f.gP.map ag):=by unfold lg;rw[if_neg (by simpa using h0)]
    have a7:0<f.gP.length:=tz.2 h0;have S:=mO oO (f.gP.map ag);have Dy:(I++f.gM.flatMap fD++f.d'.flatMap dF).length+(aJ oO (f.gP.map ag)).length<=10000000000:=by rw[<-hz];simp only[la];omega
    have ak:f.gP.length<=10000000000:=by rw[lE]at S;omega
    have ad:Hid (f.gP.length=(f.gP.map ag).length):=J (lE ag).symm;have QU:Hid ((I++f.gM.flatMap fD++f.d'.flatMap dF).length+(aJ oO (f.gP.map ag)).length<=1000000000000/\(f.gP.map ag).length<=1000000000000):=J ⟨by omega,by omega⟩;have hI:=J (zT wr A8 c8 f.gP w m (by omega));have Hz:=J hz;clear hz h0 Dy S;go_wp2_with (first
     |(go_at_call 22;refine hI.mono ?_;rintro e Y ⟨Aw,cw,rfl,W,l⟩)
     |(go_at_call 19;refine(zL Y v.heap.size (v.heap.size+1) M _ oO Aw cw f.gP.length (f.gP.map ag) ad (p.below l) (vJ W) QU).mono ?_;rintro e wz ⟨rfl,H,j,C⟩))
    go_meet
    rw[Hz.out];exact⟨rfl,H,c.2.1.trans ((KP.below l).trans j),c.2.2.trans ((l.mono (by omega)).trans C)⟩
   case rest=>
    obtain⟨rfl,d⟩:=hcut;clear c l8;have c:=J d;clear d;have a8:wc.cell? (v,7)=some (A7 f.fY.length c7):=(c.2.1.bk B0 (by decide) (by decide)).cell 7;go_wp2_with fail
    go_loopw [72] (λi wr=>∃k:Nat,k<=f.fY.length/\i=.int .i64 k/\vM v K v.heap.size (v.heap.size+1) M (I++f.gM.flatMap fD++f.d'.flatMap dF++lg f.gP++(f.fY.take k).flatMap iL) wr) (λi _=>f.fY.length - (intOf i).toNat)
    case atStart=>exact⟨0,nz _,rfl,by simpa using c.out⟩
    case round=>
     obtain⟨k,hk,rfl,d⟩:=hrel;clear a8 c;have a:KP K wr:=d.2.1;have R:=a.size;have c:=J d;by_cases q:k<f.fY.length
     .have Z:k<=10000000000:=nt (pl q) n7;have w:iN wr:=hT.below d.2.2 hG;have p:=d.1;have m:=a.sl kx.ok s7;clear d;obtain⟨b,o,y,E0,e0,rfl,-,F,V,j0⟩:=m.code q;have L:=J (cO iL f.fY k y F);have G:=bU iL f.fY k y F;have r:(I++f.gM.flatMap fD++f.d'.flatMap dF++lg f.gP++(f.fY.take k).flatMap iL).length+(iL y).length<=10000000000:=by simp only[la];omega
      have S:=mO sH (y.map dO);have Dy:(I++f.gM.flatMap fD++f.d'.flatMap dF++lg f.gP++(f.fY.take k).flatMap iL).length+(aJ sH (y.map dO)).length<=10000000000:=r;have ak:y.length<=10000000000:=by rw[lE]at S;omega
      have ad:Hid (y.length=(y.map dO).length):=J (lE dO).symm;have Yt:(I++f.gM.flatMap fD++f.d'.flatMap dF++lg f.gP++(f.fY.take k).flatMap iL).length+(aJ sH (y.map dO)).length<=1000000000000/\(y.map dO).length<=1000000000000:=⟨by omega,by omega⟩
      have QU:=J Yt;have hI:=J (AV wr E0 e0 y w j0 (by omega));clear F G r m Dy S Yt;go_wp2_with (first
       |(go_at_call 23;refine hI.mono ?_;rintro e Y ⟨Aw,cw,rfl,W,l⟩)
       |(go_at_call 19;refine(zL Y v.heap.size (v.heap.size+1) M _ sH Aw cw y.length (y.map dO) ad (p.below l) (vJ W) QU).mono ?_;rintro e wz ⟨rfl,H,j,C⟩))
      go_roundw
      case rel=>exact⟨k+1,by omega,by simp,by rw[L.out,<-mL];exact H,c.2.1.trans ((KP.below l).trans j),c.2.2.trans ((l.mono (by omega)).trans C)⟩
      case measure=>simp[intOf];omega
     obtain rfl:k=f.fY.length:=by omega
     rw[lf]at c;clear a R;have a9:wr.cell? (v,1)=some (A1 f.ga.length c1):=(c.2.1.bk B0 (by decide) (by decide)).cell 1;go_wp2_with fail
     go_loopw [84] (λi wr=>∃k:Nat,k<=f.ga.length/\i=.int .i64 k/\vM v K v.heap.size (v.heap.size+1) M (I++f.gM.flatMap fD++f.d'.flatMap dF++lg f.gP++f.fY.flatMap iL++(f.ga.take k).flatMap (eF f.ga)) wr) (λi _=>f.ga.length - (intOf i).toNat)
     case atStart=>exact⟨0,nz _,rfl,by simpa using c.out⟩
     case round=>
      obtain⟨k,hk,rfl,d⟩:=hrel;clear a9 c;have a:KP K wr:=d.2.1;have R:=a.size;have c:=J d;by_cases q:k<f.ga.length
      .have Z:k<=10000000000:=nt (pl q) n1;have w:iN wr:=hT.below d.2.2 hG;have uP:PN wr (v.heap.size+1) f.ga:=U.kp Q d.1 a;have p:=d.1;have m:=a.sl iA.ok s1;clear d;obtain⟨b,o,y,E3,e3,E4,e4,E5,e5,E6,e6,E7,e7,E8,e8,rfl,-,F,V,q1,q2,q3,q4,q5,q6,q7,q8,r1,j3,j4,j5,j6,j7,j8⟩:=m.z q;have L:=J (cO (eF f.ga) f.ga k y F);have G:=bU (eF f.ga) f.ga k y F;have r:(I++f.gM.flatMap fD++f.d'.flatMap dF++lg f.gP++f.fY.flatMap iL++(f.ga.take k).flatMap (eF f.ga)).length+((eF f.ga) y).length<=10000000000:=by simp only[la];omega
       obtain⟨ba,bb⟩:=hS y (kj F);have bc:y.gR.length<=1000000000:=hH y (kj F);have n:Below wr.heap.size wr (wr.alloc (.cells #[.string ⟨y.gn.toArray⟩,.int .i64 y.gL,.bool y.i6,E3 y.gk.length e3,E4 y.gO.length e4,E5 y.gi.length e5,E6 y.gh.length e6,E7 y.gx.length e7,E8 y.gR.length e8] 52)):=(gD _ _).alloc (ae _) _;have E:=KP.below n;have hR:=J (ZB _ v.heap.size (v.heap.size+1) M _ f.ga E3 E4 E5 E6 E7 E8 e3 e4 e5 e6 e7 e8 y (w.all n) hG (uP.below n) ap (p.below n) (nt aq (nt R n.size)) r1 (E.sl lr.ok j3) (E.sl gS.ok j4) (E.sl lS.ok j5) (E.sl mc.ok j6) (E.sl md.ok j7) (E.sl ky.ok j8) ba bb bc r);have KO:=J E;have KN:=J n;clear F G r m E n w uP p;go_wp2_with (go_at_call 24;refine hR.mono ?_;rintro e wz ⟨rfl,H,j,C⟩)
       go_roundw
       case rel=>exact⟨k+1,by omega,by simp,by rw[L.out,<-mL];exact H,c.2.1.trans (KO.trans j),c.2.2.trans ((KN.mono (by omega)).trans C)⟩
       case measure=>simp[intOf];omega
      obtain rfl:k=f.ga.length:=by omega
      rw[lf]at c;clear a R;have bd:wr.cell? (v,2)=some (A2 f.f6.length c2):=(c.2.1.bk B0 (by decide) (by decide)).cell 2;go_wp2_with fail
      go_loopw [95] (λi wr=>∃k:Nat,k<=f.f6.length/\i=.int .i64 k/\vM v K v.heap.size (v.heap.size+1) M (I++f.gM.flatMap fD++f.d'.flatMap dF++lg f.gP++f.fY.flatMap iL++f.ga.flatMap (eF f.ga)++(f.f6.take k).flatMap (lF f.ga)) wr) (λi _=>f.f6.length - (intOf i).toNat)
      case atStart=>exact⟨0,nz _,rfl,by simpa using c.out⟩
      case round=>
       obtain⟨k,hk,rfl,d⟩:=hrel;clear bd c;have a:KP K wr:=d.2.1;have R:=a.size;have c:=J d;by_cases q:k<f.f6.length
       .have Z:k<=10000000000:=nt (pl q) n2;have w:iN wr:=hT.below d.2.2 hG;have uP:PN wr (v.heap.size+1) f.ga:=U.kp Q d.1 a;have p:=d.1;have m:=a.sl kO.ok s2;clear d;obtain⟨b,o,y,rfl,-,F,V,q1,r0,r1⟩:=m.Y q;have L:=J (cO (lF f.ga) f.f6 k y F);have G:=bU (lF f.ga) f.f6 k y F;have r:(I++f.gM.flatMap fD++f.d'.flatMap dF++lg f.gP++f.fY.flatMap iL++f.ga.flatMap (eF f.ga)++(f.f6.take k).flatMap (lF f.ga)).length+((lF f.ga) y).length<=10000000000:=by simp only[la];omega
        obtain⟨z,t⟩:=y;dsimp only at V q1 r0 r1;have Dy:(I++f.gM.flatMap fD++f.d'.flatMap dF++lg f.gP++f.fY.flatMap iL++f.ga.flatMap (eF f.ga)++(f.f6.take k).flatMap (lF f.ga)).length+(aJ xe [ag z,dK f.ga t]).length<=10000000000:=r;clear F G r m;go_wp2_with fail
        obtain⟨u,bg⟩:∃u,wr.alloc (.cells #[z,t] 62)=u:=⟨_,rfl⟩
        rw[bg];have s:Below wr.heap.size wr u:=by rw[<-bg];exact(gD _ _).alloc (ae _) _
        have P:Bk u wr.heap.size 62 #[z,t]:=by rw[<-bg];exact Bk.new _ _ _
        clear bg V q1;have O:=w.all s;have aQ:=uP.below s;have zD:=p.below s;have v0:u.cell? ⟨wr.heap.size,0,none⟩=some (.int .i64 z):=P.cell 0;have v1:u.cell? ⟨wr.heap.size,1,none⟩=some (.int .i64 t):=P.cell 1
        go_region_held3 (λw'=>w'.cell? ⟨wr.heap.size,0,none⟩=some (.int .i64 z)/\w'.cell? ⟨wr.heap.size,1,none⟩=some (.int .i64 t))
         (first
          |exact⟨(j.bk (P.below x) (by decide) (by decide)).cell 0,(j.bk (P.below x) (by decide) (by decide)).cell 1⟩
          |exact⟨dE _ (ah x v0),dE _ (ah x v1)⟩
          |exact⟨ah x v0,ah x v1⟩
          |exact⟨ah A v0,ah A v1⟩
          |go_keep)
         (first
          |(go_at_call 20;refine(bi _ z O.drew r0).mono ?_;rintro e Y ⟨rfl,l⟩;have A:=lC l)
          |(go_at_call 25;refine(DJ _ (v.heap.size+1) f.ga t (O.all A) r1 (aQ.below A) ap).mono ?_;rintro e w2 ⟨rfl,aw⟩;have x:=bt A aw)
          |(go_at_call 19;refine(nC w2 w2.heap.size 2 rfl v.heap.size (v.heap.size+1) M _ xe [ag z,dK f.ga t] rfl (zD.below x) Dy).mono ?_;rintro e wz ⟨rfl,H,j,C⟩))
        go_wp2;go_roundw
        case rel=>exact⟨k+1,by omega,by simp,by rw[L.out,<-mL];exact H,c.2.1.trans ((KP.below (bt s x)).trans j),c.2.2.trans (((bt s x).mono (by omega)).trans C)⟩
        case measure=>simp[intOf];omega
       obtain rfl:k=f.f6.length:=by omega
       rw[lf]at c;clear a R;have bf:wr.cell? (v,3)=some (A3 f.ge.length c3):=(c.2.1.bk B0 (by decide) (by decide)).cell 3;go_wp2_with fail
       go_loopw [113] (λi wr=>∃k:Nat,k<=f.ge.length/\i=.int .i64 k/\vM v K v.heap.size (v.heap.size+1) M (I++f.gM.flatMap fD++f.d'.flatMap dF++lg f.gP++f.fY.flatMap iL++f.ga.flatMap (eF f.ga)++f.f6.flatMap (lF f.ga)++(f.ge.take k).flatMap (eu f.ga)) wr) (λi _=>f.ge.length - (intOf i).toNat)
       case atStart=>exact⟨0,nz _,rfl,by simpa using c.out⟩
       case round=>
        obtain⟨k,hk,rfl,d⟩:=hrel;clear bf c;have a:KP K wr:=d.2.1;have R:=a.size;have c:=J d;by_cases q:k<f.ge.length
        .have Z:k<=10000000000:=nt (pl q) n3;have w:iN wr:=hT.below d.2.2 hG;have uP:PN wr (v.heap.size+1) f.ga:=U.kp Q d.1 a;have p:=d.1;have m:=a.sl jn.ok s3;clear d;obtain⟨b,o,y,E2,e2,rfl,-,F,V,q1,q2,r0,j2⟩:=m.lookup q;have L:=J (cO (eu f.ga) f.ge k y F);have G:=bU (eu f.ga) f.ge k y F;have r:(I++f.gM.flatMap fD++f.d'.flatMap dF++lg f.gP++f.fY.flatMap iL++f.ga.flatMap (eF f.ga)++f.f6.flatMap (lF f.ga)++(f.ge.take k).flatMap (eu f.ga)).length+((eu f.ga) y).length<=10000000000:=by simp only[la];omega
         have bh:y.gC.length<=10000000000:=by have h1:=nU (qF f.ga y.gd) (λ_=>kE _ _) y.gC;have h2:eu f.ga y=aJ iW (pick aH y.gd::if y.nj then [fO]else [])++y.gC.flatMap (qF f.ga y.gd):=rfl;rw[h2,la]at G;omega
         have n:Below wr.heap.size wr (wr.alloc (.cells #[.int .i64 y.gd,.bool y.nj,E2 y.gC.length e2] 65)):=(gD _ _).alloc (ae _) _;have E:=KP.below n;have hR:=J (CK _ v.heap.size (v.heap.size+1) M _ f.ga E2 e2 y (w.all n) hG (uP.below n) ap (p.below n) (nt aq (nt R n.size)) (E.sl lj.ok j2) bh r);have KO:=J E;have KN:=J n;clear F G r m E n w uP p;go_wp2_with (go_at_call 26;refine hR.mono ?_;rintro e wz ⟨rfl,H,j,C⟩)
         go_roundw
         case rel=>exact⟨k+1,by omega,by simp,by rw[L.out,<-mL];exact H,c.2.1.trans (KO.trans j),c.2.2.trans ((KN.mono (by omega)).trans C)⟩
         case measure=>simp[intOf];omega
        obtain rfl:k=f.ge.length:=by omega
        rw[lf]at c;clear a R;have bj:wr.cell? (v,4)=some (X f.a'.length c4):=(c.2.1.bk B0 (by decide) (by decide)).cell 4;go_wp2_with fail
        go_loopw [124] (λi wr=>∃k:Nat,k<=f.a'.length/\i=.int .i64 k/\vM v K v.heap.size (v.heap.size+1) M (I++f.gM.flatMap fD++f.d'.flatMap dF++lg f.gP++f.fY.flatMap iL++f.ga.flatMap (eF f.ga)++f.f6.flatMap (lF f.ga)++f.ge.flatMap (eu f.ga)++(f.a'.take k).flatMap jw) wr) (λi _=>f.a'.length - (intOf i).toNat)
        case atStart=>exact⟨0,nz _,rfl,by simpa using c.out⟩
        case round=>
         obtain⟨k,hk,rfl,d⟩:=hrel;clear bj c;have a:KP K wr:=d.2.1;have R:=a.size;have c:=J d;by_cases q:k<f.a'.length
         .have Z:k<=10000000000:=nt (pl q) n4;have w:iN wr:=hT.below d.2.2 hG;have p:=d.1;have m:=a.sl kn.ok s4;clear d;obtain⟨b,o,y,E1,e1,rfl,-,F,V,q1,j1⟩:=m.t' q;have L:=J (cO jw f.a' k y F);have G:=bU jw f.a' k y F;have r:(I++f.gM.flatMap fD++f.d'.flatMap dF++lg f.gP++f.fY.flatMap iL++f.ga.flatMap (eF f.ga)++f.f6.flatMap (lF f.ga)++f.ge.flatMap (eu f.ga)++(f.a'.take k).flatMap jw).length+(jw y).length<=10000000000:=by simp only[la];omega
          obtain⟨z,t⟩:=y;dsimp only at V q1 j1;have S:=mO kH (z::t.map ag);have Dy:(I++f.gM.flatMap fD++f.d'.flatMap dF++lg f.gP++f.fY.flatMap iL++f.ga.flatMap (eF f.ga)++f.f6.flatMap (lF f.ga)++f.ge.flatMap (eu f.ga)++(f.a'.take k).flatMap jw).length+(aJ kH (z::t.map ag)).length<=10000000000:=r;have ak:t.length<=10000000000:=by simp only[aV,lE]at S;omega
          have ad:Hid (1+t.length=(z::t.map ag).length):=J (by simp;omega);have QU:Hid ((I++f.gM.flatMap fD++f.d'.flatMap dF++lg f.gP++f.fY.flatMap iL++f.ga.flatMap (eF f.ga)++f.f6.flatMap (lF f.ga)++f.ge.flatMap (eu f.ga)++(f.a'.take k).flatMap jw).length+(aJ kH (z::t.map ag)).length<=1000000000000/\(z::t.map ag).length<=1000000000000):=J ⟨by omega,by omega⟩;clear F G r m Dy S;go_wp2_with fail
          obtain⟨u,bg⟩:∃u,wr.alloc (.cells #[.string z,E1 t.length e1] 73)=u:=⟨_,rfl⟩
          rw[bg];have s:Below wr.heap.size wr u:=by rw[<-bg];exact(gD _ _).alloc (ae _) _
          have P:Bk u wr.heap.size 73 #[.string z,E1 t.length e1]:=by rw[<-bg];exact Bk.new _ _ _
          clear bg V q1;have zD:=p.below s;have O:=w.all s;have aR:=(KP.below s).sl gS.ok j1;have al:Below u.heap.size u (u.alloc (.cells #[.string z] 9)):=(gD _ _).alloc (ae _) _;have bl:=(O.all al).drew;have bm:=O.drew;have bn:Sl gS 1 (u.alloc (.cells #[.string z] 9)).drew (FT (u.alloc (.cells #[.string z] 9)).drew) E1 t:=(KP.below (gD _ _).drew).sl gS.ok ((KP.below al).sl gS.ok aR);have bo:Sl gS 1 u.drew (FT u.drew) E1 t:=(KP.below (gD _ _).drew).sl gS.ok aR;have aW:t.length<=100000000000:=by omega
          have a0:1+t.length<=1000000000000:=by omega
          have v0:u.cell? ⟨wr.heap.size,0,none⟩=some (.string z):=P.cell 0;have v1:u.cell? ⟨wr.heap.size,1,none⟩=some (E1 t.length e1):=P.cell 1;have bp:(u.alloc (.cells #[.string z] 9)).ownsRow u.heap.size 9 1 (.slice (some ⟨u.heap.size,0,none⟩) 1 1) 1 [.string z]:=WP u _ z (ae _);have bq:=J al;clear al
          go_region_held3 (λw'=>w'.cell? ⟨wr.heap.size,0,none⟩=some (.string z)/\w'.cell? ⟨wr.heap.size,1,none⟩=some (E1 t.length e1))
           (first
            |exact⟨(j.bk (P.below T) (by decide) (by decide)).cell 0,(j.bk (P.below T) (by decide) (by decide)).cell 1⟩
            |exact⟨ah T v0,ah T v1⟩
            |exact⟨dE _ (ah aa v0),dE _ (ah aa v1)⟩
            |exact⟨ah ao v0,ah ao v1⟩
            |exact⟨ah aa v0,ah aa v1⟩
            |go_keep)
           (first
            |(go_at_call 22;refine(zT (u.alloc (.cells #[.string z] 9)).drew E1 e1 t bl bn aW).mono ?_;rintro e Y ⟨Aw,cw,rfl,W,l⟩;have A:=lC l;have ao:=bt bq A;have z1:=ao.size;have a1:=gj bp A;have br:=Ce W (lE ag))
            |(go_at_call 22;refine(zT u.drew E1 e1 t bm bo aW).mono ?_;rintro e Y ⟨Aw,cw,rfl,W,l⟩;have aa:=lC l;have z1:=aa.size;have je:=WP Y u.heap.size z z1;have bs:=J1 (o:=(.cells #[.string z] 9)) (Ce W (lE ag)))
            |(refine UJ (by rfl) (.tmp 131) (.tmp 134) (by rfl) Y u.heap.size 1 1 _ _ Y.heap.size Aw t.length cw (t.map ag) (by go_simp) (by go_simp) a1 br a0 z1 ?_;intro X c4 w4 bW ay;have T:=ao.grown ay z1 (λg e=>(a1.lt g e).1))
            |(refine UJ (by rfl) (.tmp 131) (.tmp 134) (by rfl) _ u.heap.size 1 1 _ _ _ Aw t.length cw (t.map ag) (by go_simp) (by go_simp) je bs a0 (Q4 z1) ?_;intro X c4 w4 bW ay;have T:=(aa.alloc z1 _).grown ay (Q4 z1) (λg e=>(je.lt g e).1))
            |(go_at_call 19;refine(zL w4 v.heap.size (v.heap.size+1) M _ kH X c4 (1+t.length) (z::t.map ag) ad (zD.below T) (vJ (ws:=z::t.map ag) bW) QU).mono ?_;rintro e wz ⟨rfl,H,j,C⟩))
          all_goals
           go_wp2;go_roundw
           case rel=>exact⟨k+1,by omega,by simp,by rw[L.out,<-mL];exact H,c.2.1.trans ((KP.below (bt s T)).trans j),c.2.2.trans (((bt s T).mono (by omega)).trans C)⟩
           case measure=>simp[intOf];omega
         obtain rfl:k=f.a'.length:=by omega
         rw[lf]at c;clear a R;obtain⟨TT,a2⟩:∃TT,I++f.gM.flatMap fD++f.d'.flatMap dF++lg f.gP++f.fY.flatMap iL++f.ga.flatMap (eF f.ga)++f.f6.flatMap (lF f.ga)++f.ge.flatMap (eu f.ga)++f.a'.flatMap jw=TT:=⟨_,rfl⟩
         have p:=c.1;have bv:=c.2.2;rw[a2]at p aE HF;clear a2 c;go_wp2_with (go_at_call 27;refine(XP wr v.heap.size (v.heap.size+1) M _ p aE).mono ?_;rintro e wz ⟨rfl,C⟩)
         go_ret
         rw[HF.out];exact⟨rfl,bv.trans C⟩
end
def tv (w:World)(n:Nat)(a:List (List Int))(v:Value)(d:World):Prop:=∃A c b,v=.slice A n c/\d.ownsRow w.heap.size 22 1 (.slice A n c) n b/\Fl gT 1 d (IB w.heap.size d) b a/\Below w w d
theorem tv.next {w C d D:World}{n:Nat}{a:List (List Int)}{l:List Int}{A E i:Option Addr}{c c5 j:Nat}{k:List Value}(q:C.ownsRow w.heap.size 22 1 (A n c) n k)(u:Fl gT 1 C (IB w.heap.size C) k a)(f:Below w w C)
  (r:d.ownsRow C.heap.size 3 1 (E l.length c5) l.length (aC l)) (v:∀x∈l,gN x) (h:Below C C d) (y:D.ownsRow w.heap.size 22 1 (i (n+1) j) (n+1) (k++[E l.length c5])) (m:d.grownBy D (Value.slice A n c).ownBlock):
  tv w (n+1) (a++[l]) (i (n+1) j) D:=by
 have s:=gj q h;have o:∀g,(Value.slice A n c).ownBlock=some g->∃t b,Bk d g t b/\t≠3:=λg e=>by
  obtain⟨b,z⟩:=dY s e;exact⟨_,b,z,by decide⟩
 have B:=(u.ib (az h none) (λg e=>by cases e)).ib m o;have p:=r.kept m (px r s (by decide));exact⟨i,j,_,rfl,y,B.snoc (R:=gT) (WZ p v f.size) rfl,(f.trans (h.mono f.size)).grown m (nt f.size h.size) (λg e=>(q.lt g e).1)⟩
theorem Xe {S:Bs}(h:Fl gT 1 w S m f){k:Nat}{r:List Int}(d:f[k]?=some r):∃A c,m[k]?=some (.slice A r.length c)/\Sl gS 1 w S A r:=by obtain⟨g,⟨A,c,rfl,e⟩,-,a⟩:=h.2 k r d;have:=a 0 _ rfl;rw[Nat.mul_one,Nat.add_zero]at this;exact⟨A,c,this,e⟩
theorem FR (A:Option Addr)(n c:Nat)(a:List (List Int))(L:List Value){S:Bs}(z:i7 v 22 A n 1 L)(B:Fl gT 1 v S L a)(M:∀b,S b->b<v)(hn:n<=1000000000)(N:∀r∈a,r.length<=1000000000)(O:∀r∈a,∀x∈r,gN x):
  Calls Tryz.prog 105 #[A n c] v λe U=>∃w,e=.returned w/\tv v n (a.map setOf) w U:=by
 have m:a.length=n:=by have h1:=z.1;have h2:=B.1;omega
 have V:=J z;have W:=J B;have X:=J M;have Y:=J N;have Z:=J O;have P:=J m;clear z B M N O m;go_enter Tryz.func105,Tryz.ntmps105
 go_wp2;go_loopw [3,8] (λw i wr=>∃k:Nat,k<=n/\i=.int .i64 k/\tv v k ((a.map setOf).take k) w wr) (λ_ i _=>n - (intOf i).toNat)
 case atStart=>exact⟨0,nz _,rfl,none,0,[],rfl,World.ownsRow_nil _ _ _ _,Fl.nil,gD _ _⟩
 case round=>
  obtain⟨k,hk,rfl,Q,R,p,rfl,C,f,d⟩:=hrel;by_cases D:k<n
  .obtain⟨r,g⟩:∃r,a[k]?=some r:=⟨_,jO (by rw[P.out];exact D)⟩
   obtain⟨E,T,q,s⟩:=Xe W g;obtain⟨b,o,aa,rfl,y,t⟩:=V.2 (by omega);have q1:wr.cell? ⟨b,o+k,none⟩=some (E r.length T):=((aj d).1 _ _ y.lt).trans ((y.cell _).trans (t k _ q));have h:=kj g;have F:=Y r h;have u:Rd wr v.heap.size E r.length 1 (aC r):=(Zv s X).below d (ae _);have j:=J (Zt wr E r.length T r u F);have G:Hid ((a.map setOf).take (k+1)=(a.map setOf).take k++[setOf r]):=by show _=_;rw[pm,po,g];rfl
   have QG:Hid (∀x∈setOf r,gN x):=λx hx=>Z r h x ((FY x r).1 hx)
   have ac:=d.size;have H:=J f;have I:=J d;generalize (a.map setOf).take k=ad at*
   clear g q s y t h u f d;go_wp2_with (first
    |(go_at_call 142;refine j.mono ?_;rintro e w1 ⟨A5,c5,rfl,AQ,l⟩;have z1:=l.size)
    |(at_builtin;refine jr LV rfl (.tmp 12) (.tmp 15) rfl w1 _ rfl v.heap.size k R Q p #[A5 (setOf r).length c5] rfl rfl rfl (gj C l) (by simp[Value.oneCell']) (by omega) (by omega) ?_;intro A6 c6 w2 ak K _))
   go_roundw
   case rel=>exact⟨k+1,by omega,by simp,by rw[G.out];exact tv.next C H I AQ QG l ak K⟩
   case measure=>simp[intOf];omega
  obtain rfl:k=n:=by omega
  have ht:Hid ((a.map setOf).take k=a.map setOf):=by show _=_;exact oY (by rw[lE,P.out];exact ae _)
  rw[ht.out]at f;go_wp2;go_ret
  exact⟨_,rfl,Q,R,p,rfl,C,f,d⟩
theorem Hp (n:Nat):(n==1)=((n:Int)==1):=by rw[Bool.eq_iff_iff];simp;omega
theorem Hn (n:Nat):(n==0)=((n:Int)==0):=by rw[Bool.eq_iff_iff];simp
theorem Dm (u:Int)(A:Option Addr)(n c:Nat)(w:List P3)(h:i7 v fE A n 3 (dP w))(i:∀x∈w,x.2.2.length<=800000000)(j:n<=1000000000):
  Calls Tryz.prog 103 #[u,A n c] v λe m=>e=.returned (.bool (fF u (af w)))/\Below v v m:=by
 have a:(af w).length=n:=by rw[ji];exact h.rd.Z
 have b:=J (UW v A n c w h i j);have k:Hid (w.all (λx=>He x.2.2)=BK (af w)):=by show _=_;rw[Ea];rfl
 by_cases d:u=4
 .have f:Hid (fF u (af w)=BK (af w)):=by show _=_;unfold fF;rw[if_pos d]
  subst d;clear h i j a;go_enter Tryz.func103,Tryz.ntmps103
  go_wp2_with fail
  refine b.mono ?_;rintro e p ⟨rfl,o⟩;go_wp2;go_ret
  rw[f.out,k.out];exact⟨rfl,o⟩
 by_cases g:u=6
 .have f:Hid (fF u (af w)=((n:Int)==1)):=by show _=_;unfold fF;rw[if_neg d,if_pos g,a,Hp]
  subst g;clear h i j a b d;go_enter Tryz.func103,Tryz.ntmps103
  go_wp2;go_ret
  rw[f.out];exact⟨rfl,gD _ _⟩
 by_cases l:u=7\/u=8
 .have f:Hid (fF u (af w)=((n:Int)==0)):=by show _=_;unfold fF;rw[if_neg d,if_neg g,if_pos l,a,Hn]
  clear h i j a b d g;rcases l with rfl|rfl
  all_goals
   go_enter Tryz.func103,Tryz.ntmps103
   go_wp2;go_ret
   rw[f.out];exact⟨rfl,gD _ _⟩
 have f:Hid (fF u (af w)=true):=by show _=_;unfold fF;rw[if_neg d,if_neg g,if_neg l]
 have q:(u==4)=false:=by simpa using d
 have r:(u==6)=false:=by simpa using g
 have s:(u==7)=false:=by simp;omega
 have t:(u==8)=false:=by simp;omega
 clear h i j a b d g l;go_enter Tryz.func103,Tryz.ntmps103
 go_wp2;go_ret
 rw[f.out];exact⟨rfl,gD _ _⟩
theorem vF (p F:Nat):Calls Tryz.prog 50 #[.pointer (p,0),.func (.func F) #[.pointer (p,0)] #[]] v λe a=>e=.returned (.func (.func 97) #[] #[.pointer (v,0),.pointer (v.heap.size+1,0)])/\
  a=(v.alloc (.cells #[.pointer (p,0)] 88)).alloc (.cells #[.func (.func F) #[.pointer (p,0)] #[]] 133):=by
 go_enter Tryz.func50,Tryz.ntmps50
 go_wp2;go_ret
 exact⟨by simp,rfl⟩
theorem Va (p F:Nat):Calls Tryz.prog 58 #[.pointer (p,0),.func (.func F) #[.pointer (p,0)] #[]] v λe a=>e=.returned (.func (.func 101) #[] #[.pointer (v,0),.pointer (v.heap.size+1,0)])/\
  a=(v.alloc (.cells #[.pointer (p,0)] 88)).alloc (.cells #[.func (.func F) #[.pointer (p,0)] #[]] 135):=by
 go_enter Tryz.func58,Tryz.ntmps58
 go_wp2;go_ret
 exact⟨by simp,rfl⟩
def pV (p F:Nat):Value:= .func (.func F) #[.pointer (p,0)] #[]
def cV (F a b:Nat):Value:= .func (.func F) #[] #[.pointer (a,0),.pointer (b,0)]
structure mw (w:World)(t:TypeId)(p F a b:Nat):Prop where
 par:Bk w a 88 #[.pointer (p,0)]
 fn:Bk w b t #[pV p F]
theorem mw.below {w w':World}{p a b:Nat}(h:mw w i p g a b)(c:Below w w w'):mw w' i p g a b:=⟨h.par.keep (c.block _ h.par.lt),h.fn.keep (c.block _ h.fn.lt)⟩
theorem mw.grown {w':World}{p m:Nat}(h:mw w i p g a b)(f:w.grownBy w' (some m))(d:∃t c,w.heap[m]?=some (.map t c)):mw w' i p g a b:=by
 obtain⟨t,c,d⟩:=d;refine⟨h.par.keep (f.block _ h.par.lt λe=> ?_),h.fn.keep (f.block _ h.fn.lt λe=> ?_)⟩
 .injection e with e
  subst e;have:=h.par;unfold Bk at this;rw[d]at this;cases this
 injection e with e
 subst e;have:=h.fn;unfold Bk at this;rw[d]at this;cases this
theorem mw.new (t:TypeId)(p F:Nat):mw ((v.alloc (.cells #[.pointer (p,0)] 88)).alloc (.cells #[pV p F] t)) t p F v.heap.size (v.heap.size+1):=by refine⟨(Bk.new v _ _).alloc _,?_⟩;have:=Bk.new (v.alloc (.cells #[.pointer (p,0)] 88)) t #[pV p F];simpa using this
theorem RW:(Instr.makeMap 94 none).run Tryz.prog v=.ok (.map (some v.heap.size)) (v.alloc (.map #[] 0)):=by
 simp[Instr.makeMap,run_underlying Tryz.underlying94,Result.andThen,newObj,go_sem]
 try rfl
structure tR (w:World)(p M:Nat)(f:B->Option Value)(kw kz rX sD lU lV pq pz rW su rY sF:Nat):Prop where
 map:j9 oJ w M f
 asb:f nN=some (pV p 43)
 Wz:f wZ=some (pV p 44)
 X2:f kY=some (pV p 45)
 ash:f oO=some (pV p 46)
 WE:f sH=some (pV p 47)
 ZS:f CB=some (pV p 48)
 Z0:f fB=some (pV p 49)
 arf:f ik=some (cV 97 kw kz)
 vu:mw w 133 p 51 kw kz
 Xs:f sJ=some (cV 97 rX sD)
 vq:mw w 133 p 52 rX sD
 X0:f lY=some (cV 97 lU lV)
 vx:mw w 133 p 53 lU lV
 ZV:f pO=some (cV 97 pq pz)
 vr:mw w 133 p 54 pq pz
 WK:f qG=some (cV 97 rW su)
 vt:mw w 133 p 55 rW su
 WD:f xe=some (pV p 56)
 X1:f iW=some (pV p 57)
 asa:f ku=some (cV 101 rY sF)
 vK:mw w 135 p 59 rY sF
 arh:f kH=some (pV p 60)
 none:∀t,t≠nN->t≠wZ->t≠kY->t≠oO->t≠sH->t≠CB->t≠fB->t≠ik->t≠sJ->t≠lY->t≠pO->t≠qG->t≠xe->t≠iW->t≠ku->t≠kH->f t=none
theorem Qu (p:Nat):Calls Tryz.prog 18 #[.pointer (p,0)] v λe w'=>∃M f kw kz rX sD lU lV pq pz rW su rY sF,e=.returned (.map (some M))/\v.heap.size<=M/\tR w' p M f kw kz rX sD lU lV pq pz rW su rY sF/\Below v v w':=by
 go_enter Tryz.func18,Tryz.ntmps18
 have bk:=RW v;have a4:=j9.new oJ v;have ab:Below v v (v.alloc (.map #[] 0)):=(gD _ _).alloc (ae _) _;obtain⟨w1,ac,a5,a6⟩:=a4.put Tryz.underlying94 Tryz.underlying9 nN (.func (.func 43) #[.pointer (p,0)] #[]) (by first|rfl|simp);have bl:(Instr.mapUpdate 94 (.map (some v.heap.size)) (.string ⟨#[117,110,105,116]⟩) (.func (.func 43) #[.pointer (p,0)] #[])).run Tryz.prog (v.alloc (.map #[] 0))=.ok () w1:=ac;have ad:Below v v w1:=ab.grown a6 ab.size (λk e=>by cases e;exact ae _);clear ac;obtain⟨w2,ak,a7,a8⟩:=a5.put Tryz.underlying94 Tryz.underlying9 wZ (.func (.func 44) #[.pointer (p,0)] #[]) (by first|rfl|simp);have bm:(Instr.mapUpdate 94 (.map (some v.heap.size)) (.string ⟨#[97,120,105,115]⟩) (.func (.func 44) #[.pointer (p,0)] #[])).run Tryz.prog w1=.ok () w2:=ak;have al:Below v v w2:=ad.grown a8 ad.size (λk e=>by cases e;exact ae _);clear ak;obtain⟨w3,ao,bK,a9⟩:=a7.put Tryz.underlying94 Tryz.underlying9 kY (.func (.func 45) #[.pointer (p,0)] #[]) (by first|rfl|simp);have bn:(Instr.mapUpdate 94 (.map (some v.heap.size)) (.string ⟨#[114,101,103,105,111,110]⟩) (.func (.func 45) #[.pointer (p,0)] #[])).run Tryz.prog w2=.ok () w3:=ao;have ap:Below v v w3:=al.grown a9 al.size (λk e=>by cases e;exact ae _);clear ao;obtain⟨w4,WJ,ba,bb⟩:=bK.put Tryz.underlying94 Tryz.underlying9 oO (.func (.func 46) #[.pointer (p,0)] #[]) (by first|rfl|simp);have bo:(Instr.mapUpdate 94 (.map (some v.heap.size)) (.string ⟨#[99,118,116]⟩) (.func (.func 46) #[.pointer (p,0)] #[])).run Tryz.prog w3=.ok () w4:=WJ;have aq:Below v v w4:=ap.grown bb ap.size (λk e=>by cases e;exact ae _);clear WJ;obtain⟨w5,ar,LZ,bc⟩:=ba.put Tryz.underlying94 Tryz.underlying9 sH (.func (.func 47) #[.pointer (p,0)] #[]) (by first|rfl|simp);have bp:(Instr.mapUpdate 94 (.map (some v.heap.size)) (.string ⟨#[102,117,110,99]⟩) (.func (.func 47) #[.pointer (p,0)] #[])).run Tryz.prog w4=.ok () w5:=ar;have av:Below v v w5:=aq.grown bc aq.size (λk e=>by cases e;exact ae _);clear ar;obtain⟨w6,aw,xO,FB⟩:=LZ.put Tryz.underlying94 Tryz.underlying9 CB (.func (.func 48) #[.pointer (p,0)] #[]) (by first|rfl|simp);have bq:(Instr.mapUpdate 94 (.map (some v.heap.size)) (.string ⟨#[99,108,97,115,115]⟩) (.func (.func 48) #[.pointer (p,0)] #[])).run Tryz.prog w5=.ok () w6:=aw;have aD:Below v v w6:=av.grown FB av.size (λk e=>by cases e;exact ae _);clear aw;obtain⟨i,aE,WG,LY⟩:=xO.put Tryz.underlying94 Tryz.underlying9 fB (.func (.func 49) #[.pointer (p,0)] #[]) (by first|rfl|simp);have br:(Instr.mapUpdate 94 (.map (some v.heap.size)) (.string ⟨#[103,108,121,112,104]⟩) (.func (.func 49) #[.pointer (p,0)] #[])).run Tryz.prog w6=.ok () i:=aE;have r:Below v v i:=aD.grown LY aD.size (λk e=>by cases e;exact ae _);clear aE;go_wp2_with fail
 refine(vF i p 51).mono ?_;rintro e s ⟨rfl,rfl⟩;obtain⟨u7,B⟩:∃u,((i.alloc (.cells #[.pointer (p,0)] 88)).alloc (.cells #[.func (.func 51) #[.pointer (p,0)] #[]] 133))=u:=⟨_,rfl⟩
 have a:mw u7 133 p 51 i.heap.size (i.heap.size+1):=B ▸ mw.new i 133 p 51;have bA:Below i i u7:=B ▸ ((gD _ _).alloc (ae _) _).alloc (by simp) _;have WG:=WG.below bA;have r:=r.trans (bA.mono r.size);rw[B];clear B bA;obtain⟨j,aL,Pi,ED⟩:=WG.put Tryz.underlying94 Tryz.underlying9 ik (.func (.func 97) #[] #[.pointer (i,0),.pointer (i.heap.size+1,0)]) (by first|rfl|simp);have bs:(Instr.mapUpdate 94 (.map (some v.heap.size)) (.string ⟨#[99,111,110,116,111,117,114]⟩) (.func (.func 97) #[] #[.pointer (i,0),.pointer (i.heap.size+1,0)])).run Tryz.prog u7=.ok () j:=aL;have w:Below v v j:=r.grown ED r.size (λk e=>by cases e;exact ae _);clear aL;have a:=a.grown ED WG.isMap;go_wp2_with fail
 refine(vF j p 52).mono ?_;rintro e s ⟨rfl,rfl⟩;obtain⟨u8,C⟩:∃u,((j.alloc (.cells #[.pointer (p,0)] 88)).alloc (.cells #[.func (.func 52) #[.pointer (p,0)] #[]] 133))=u:=⟨_,rfl⟩
 have b:mw u8 133 p 52 j.heap.size (j.heap.size+1):=C ▸ mw.new j 133 p 52;have Yo:Below j j u8:=C ▸ ((gD _ _).alloc (ae _) _).alloc (by simp) _;have Pi:=Pi.below Yo;have w:=w.trans (Yo.mono w.size);have a:=a.below Yo;rw[C];clear C Yo;obtain⟨l,cZ,uX,ay⟩:=Pi.put Tryz.underlying94 Tryz.underlying9 sJ (.func (.func 97) #[] #[.pointer (j,0),.pointer (j.heap.size+1,0)]) (by first|rfl|simp);have vP:(Instr.mapUpdate 94 (.map (some v.heap.size)) (.string ⟨#[112,97,114,116]⟩) (.func (.func 97) #[] #[.pointer (j,0),.pointer (j.heap.size+1,0)])).run Tryz.prog u8=.ok () l:=cZ;have bf:Below v v l:=w.grown ay w.size (λk e=>by cases e;exact ae _);clear cZ;have a:=a.grown ay Pi.isMap;have b:=b.grown ay Pi.isMap;go_wp2_with fail
 refine(vF l p 53).mono ?_;rintro e s ⟨rfl,rfl⟩;obtain⟨u9,Tc⟩:∃u,((l.alloc (.cells #[.pointer (p,0)] 88)).alloc (.cells #[.func (.func 53) #[.pointer (p,0)] #[]] 133))=u:=⟨_,rfl⟩
 have c:mw u9 133 p 53 l.heap.size (l.heap.size+1):=Tc ▸ mw.new l 133 p 53;have Sz:Below l l u9:=Tc ▸ ((gD _ _).alloc (ae _) _).alloc (by simp) _;have uX:=uX.below Sz;have bf:=bf.trans (Sz.mono bf.size);have a:=a.below Sz;have b:=b.below Sz;rw[Tc];clear Tc Sz;obtain⟨g,NQ,K,uU⟩:=uX.put Tryz.underlying94 Tryz.underlying9 lY (.func (.func 97) #[] #[.pointer (l,0),.pointer (l.heap.size+1,0)]) (by first|rfl|simp);have bg:(Instr.mapUpdate 94 (.map (some v.heap.size)) (.string ⟨#[97,110,99,104,111,114]⟩) (.func (.func 97) #[] #[.pointer (l,0),.pointer (l.heap.size+1,0)])).run Tryz.prog u9=.ok () g:=NQ;have oK:Below v v g:=bf.grown uU bf.size (λk e=>by cases e;exact ae _);clear NQ;have a:=a.grown uU uX.isMap;have b:=b.grown uU uX.isMap;have c:=c.grown uU uX.isMap;go_wp2_with fail
 refine(vF g p 54).mono ?_;rintro e s ⟨rfl,rfl⟩;obtain⟨L,Yx⟩:∃u,((g.alloc (.cells #[.pointer (p,0)] 88)).alloc (.cells #[.func (.func 54) #[.pointer (p,0)] #[]] 133))=u:=⟨_,rfl⟩
 have d:mw L 133 p 54 g.heap.size (g.heap.size+1):=Yx ▸ mw.new g 133 p 54;have Ia:Below g g L:=Yx ▸ ((gD _ _).alloc (ae _) _).alloc (by simp) _;have K:=K.below Ia;have oK:=oK.trans (Ia.mono oK.size);have a:=a.below Ia;have b:=b.below Ia;have c:=c.below Ia;rw[Yx];clear Yx Ia;obtain⟨m,aM,H,SB⟩:=K.put Tryz.underlying94 Tryz.underlying9 pO (.func (.func 97) #[] #[.pointer (g,0),.pointer (g.heap.size+1,0)]) (by first|rfl|simp);have bh:(Instr.mapUpdate 94 (.map (some v.heap.size)) (.string ⟨#[100,101,108,116,97]⟩) (.func (.func 97) #[] #[.pointer (g,0),.pointer (g.heap.size+1,0)])).run Tryz.prog L=.ok () m:=aM;have iG:Below v v m:=oK.grown SB oK.size (λk e=>by cases e;exact ae _);clear aM;have a:=a.grown SB K.isMap;have b:=b.grown SB K.isMap;have c:=c.grown SB K.isMap;have d:=d.grown SB K.isMap;go_wp2_with fail
 refine(vF m p 55).mono ?_;rintro e s ⟨rfl,rfl⟩;obtain⟨N,Yy⟩:∃u,((m.alloc (.cells #[.pointer (p,0)] 88)).alloc (.cells #[.func (.func 55) #[.pointer (p,0)] #[]] 133))=u:=⟨_,rfl⟩
 have h:mw N 133 p 55 m.heap.size (m.heap.size+1):=Yy ▸ mw.new m 133 p 55;have O:Below m m N:=Yy ▸ ((gD _ _).alloc (ae _) _).alloc (by simp) _;have H:=H.below O;have iG:=iG.trans (O.mono iG.size);have a:=a.below O;have b:=b.below O;have c:=c.below O;have d:=d.below O;rw[Yy];clear Yy O;obtain⟨P,aN,NL,NF⟩:=H.put Tryz.underlying94 Tryz.underlying9 qG (.func (.func 97) #[] #[.pointer (m,0),.pointer (m.heap.size+1,0)]) (by first|rfl|simp);have bj:(Instr.mapUpdate 94 (.map (some v.heap.size)) (.string ⟨#[104,105,110,116]⟩) (.func (.func 97) #[] #[.pointer (m,0),.pointer (m.heap.size+1,0)])).run Tryz.prog N=.ok () P:=aN;have Sr:Below v v P:=iG.grown NF iG.size (λk e=>by cases e;exact ae _);clear aN;have a:=a.grown NF H.isMap;have b:=b.grown NF H.isMap;have c:=c.grown NF H.isMap;have d:=d.grown NF H.isMap;have h:=h.grown NF H.isMap;obtain⟨rG,aQ,NM,NG⟩:=NL.put Tryz.underlying94 Tryz.underlying9 xe (.func (.func 56) #[.pointer (p,0)] #[]) (by first|rfl|simp);have bv:(Instr.mapUpdate 94 (.map (some v.heap.size)) (.string ⟨#[99,104,97,114]⟩) (.func (.func 56) #[.pointer (p,0)] #[])).run Tryz.prog P=.ok () rG:=aQ;have Su:Below v v rG:=Sr.grown NG Sr.size (λk e=>by cases e;exact ae _);clear aQ;have a:=a.grown NG NL.isMap;have b:=b.grown NG NL.isMap;have c:=c.grown NG NL.isMap;have d:=d.grown NG NL.isMap;have h:=h.grown NG NL.isMap;obtain⟨n,aR,D,NH⟩:=NM.put Tryz.underlying94 Tryz.underlying9 iW (.func (.func 57) #[.pointer (p,0)] #[]) (by first|rfl|simp);have bw:(Instr.mapUpdate 94 (.map (some v.heap.size)) (.string ⟨#[108,111,111,107,117,112]⟩) (.func (.func 57) #[.pointer (p,0)] #[])).run Tryz.prog rG=.ok () n:=aR;have oL:Below v v n:=Su.grown NH Su.size (λk e=>by cases e;exact ae _);clear aR;have a:=a.grown NH NM.isMap;have b:=b.grown NH NM.isMap;have c:=c.grown NH NM.isMap;have d:=d.grown NH NM.isMap;have h:=h.grown NH NM.isMap;go_wp2_with fail
 refine(Va n p 59).mono ?_;rintro e s ⟨rfl,rfl⟩;obtain⟨Q,Yz⟩:∃u,((n.alloc (.cells #[.pointer (p,0)] 88)).alloc (.cells #[.func (.func 59) #[.pointer (p,0)] #[]] 135))=u:=⟨_,rfl⟩
 have x:mw Q 135 p 59 n.heap.size (n.heap.size+1):=Yz ▸ mw.new n 135 p 59;have I:Below n n Q:=Yz ▸ ((gD _ _).alloc (ae _) _).alloc (by simp) _;have D:=D.below I;have oL:=oL.trans (I.mono oL.size);have a:=a.below I;have b:=b.below I;have c:=c.below I;have d:=d.below I;have h:=h.below I;rw[Yz];clear Yz I;obtain⟨zV,aW,R,S⟩:=D.put Tryz.underlying94 Tryz.underlying9 ku (.func (.func 101) #[] #[.pointer (n,0),.pointer (n.heap.size+1,0)]) (by first|rfl|simp);have bx:(Instr.mapUpdate 94 (.map (some v.heap.size)) (.string ⟨#[114,117,108,101]⟩) (.func (.func 101) #[] #[.pointer (n,0),.pointer (n.heap.size+1,0)])).run Tryz.prog Q=.ok () zV:=aW;have sQ:Below v v zV:=oL.grown S oL.size (λk e=>by cases e;exact ae _);clear aW;have a:=a.grown S D.isMap;have b:=b.grown S D.isMap;have c:=c.grown S D.isMap;have d:=d.grown S D.isMap;have h:=h.grown S D.isMap;have x:=x.grown S D.isMap;obtain⟨a0,a1,bd,T⟩:=R.put Tryz.underlying94 Tryz.underlying9 kH (.func (.func 60) #[.pointer (p,0)] #[]) (by first|rfl|simp);have bz:(Instr.mapUpdate 94 (.map (some v.heap.size)) (.string ⟨#[102,101,97,116,117,114,101]⟩) (.func (.func 60) #[.pointer (p,0)] #[])).run Tryz.prog zV=.ok () a0:=a1;have a2:Below v v a0:=sQ.grown T sQ.size (λk e=>by cases e;exact ae _);clear a1;have a:=a.grown T R.isMap;have b:=b.grown T R.isMap;have c:=c.grown T R.isMap;have d:=d.grown T R.isMap;have h:=h.grown T R.isMap;have x:=x.grown T R.isMap;go_wp2_with fail
 go_ret
 refine⟨_,_,_,_,_,_,_,_,_,_,_,_,_,_,rfl,ae _,⟨bd,rfl,rfl,rfl,rfl,rfl,rfl,rfl,rfl,a,rfl,b,rfl,c,rfl,d,rfl,h,rfl,rfl,rfl,x,rfl,?_⟩,a2⟩;intro t U V y a3 W E F o X z G Y Z A aa q;simp only[if_neg U,if_neg V,if_neg y,if_neg a3,if_neg W,if_neg E,if_neg F,if_neg o,if_neg X,if_neg z,if_neg G,if_neg Y,if_neg Z,if_neg A,if_neg aa,if_neg q]
section
attribute [-go_sem] Builtin.append_
abbrev oU:TypeId:=69
structure oe (w w':World)(a b:Nat):Prop where
 os:w'.os=w.os
 tape:w'.tape=w.tape
 output:w'.output=w.output
 size:w.heap.size<=w'.heap.size
 block:∀k,k<w.heap.size->k≠a->k≠b->w'.heap[k]?=w.heap[k]?
theorem oe.refl (w:World)(a b:Nat):oe w w a b:=⟨rfl,rfl,rfl,ae _,λ_ _ _ _=>rfl⟩
theorem oe.grown {row:Option Nat}(h:oe w d a b)(c:d.grownBy W row)(l:∀g,row=some g->w.heap.size<=g\/g=a\/g=b):oe w W a b:=
 ⟨c.os.trans h.os,c.tape.trans h.tape,c.output.trans h.output,nt h.size c.size,λk f i j=>(c.block k (mz f h.size) (λe=>by
  rcases l k e.symm with g|g|g
  .omega
  .exact i g
  exact j g)).trans (h.block k f i j)⟩
theorem oe.below {g w w':World}{a b:Nat}(c:Below g.heap.size g w)(h:oe w w' a b)(e:g.heap.size<=a)(f:g.heap.size<=b):Below g.heap.size g w':=⟨h.os.trans c.os,h.tape.trans c.tape,h.output.trans c.output,nt c.size h.size,λk d=>(h.block k (mz d c.size) (by omega) (by omega)).trans (c.block k d)⟩
theorem oe.rS {w':World}(h:oe w w' a b){t l:TypeId}{x:Array Value}(p:Bk w a t j)(q:Bk w b l x)(r:i≠t)(s:i≠l){n:Nat}(k:i7 w i A n g m):i7 w' i A n g m:=
 ⟨k.1,λu=>by
  obtain⟨y,o,d,e,c,v⟩:=k.2 u;refine⟨y,o,d,e,c.keep (h.block y c.lt (λf=> ?_) (λf=> ?_)),v⟩
  .subst f;exact r (dw c p).1
  subst f;exact s (dw c q).1⟩
theorem qT.two {w':World}{p c:Nat}{k:Gl}(h:qT w p c k)(d:oe w w' a b)(e:p<w.heap.size)(f:p≠a)(g:p≠b)(i:c≠a)(j:c≠b):qT w' p c k:=⟨(World.cell?_of_block (a:=⟨p,10,none⟩) (d.block p e f g)).trans h.cell,h.map.keep (d.block c h.map.lt i j)⟩
structure pE (w:World)(C rb p:Nat)(v0 v1 v2:Value)(er:Int)(out:List Int)(gw:List Call)(x:Int)(w':World):Prop where
 bk:∃Ao co Ac cc,Bk w' C oU #[v0,v1,v2,.slice Ao out.length co,.slice Ac gw.length cc,.int .i64 x]/\w'.ownsRow w.heap.size 3 1 (.slice Ao out.length co) out.length (aC out)/\w'.ownsRow w.heap.size 71 2 (.slice Ac gw.length cc) gw.length (uF gw)
 rd:i8 w' rb p er
 two:oe w w' rb C
theorem qT.below {w w':World}{p b:Nat}{d:Gl}(h:qT w p b d)(c:Below w w w'):qT w' p b d:=⟨(World.cell?_of_block (a:=(p,10)) (c.block p (World.block_lt_of_cell? w (p,10) h.cell))).trans h.cell,h.map.below c⟩
theorem DG {l m:List B}{z:B}(b:Gl)(a:Int)(h:m=l++[z]):wC b a m=kV b (wC b a l) z:=by subst h;simp[wC]
theorem pE.more {P:World}{p:Nat}{G:Int}{H:Int}{n:Option Addr}{s u:Nat}{o:Obj}(N:Bk d g oU #[D,E,F,n l.length b,t 0 u,.int .i64 0])(v:d.ownsRow w.heap.size 3 1 (n l.length b) l.length (aC l))(I:d.ownsRow w.heap.size 71 2 (t 0 u) 0 [])(i:i8 d a p h)(j:oe w d a g)(k:a≠g)(x:i8 W a p G)(y:(d.alloc o).grownBy W (some a))(z:P.ownsRow w.heap.size 3 1 (A (l.length+1) s) (l.length+1) (aC l++[.int .i64 H]))(c:W.grownBy P (Value.slice n l.length b).ownBlock):
  pE w g a p D E F G (l++[H]) [] 0 (P.setCell (g,3) (A (l.length+1) s))/\P.cell? (g,3)=some (n l.length b)/\P.frozen? (g,3)=false:=by
 have q:d.grownBy W (some a):=dI (World.grownBy_alloc _ _ _) y;have r:=v.kept q (dC v i (by decide));have O:=I.kept q (dC I i (by decide));have K:Bk W g oU _:=Bk.L q N (λe=>k e.symm);have m:=Bk.grown K c r (by decide);have B:=O.kept c (px O r (by decide));have L:=Bk.grown x c r (by decide);have M:=j.size;refine⟨⟨⟨A,s,t,u,?_,?_,uf B m (by decide) 3 _⟩,Bk.I L (by simpa using k) _,((j.grown q (λC e=>by cases e;exact .inr (.inl rfl))).grown c (λC e=> .inl (v.lt C e).1)).grown (fZ P (g,3) _) (λC e=>by cases e;exact .inr (.inr rfl))⟩,m.cell 3,m.frozen 3⟩
 .have:=m.set 3 (A (l.length+1) s);rw[la];exact this
 rw[la,G9];exact uf z m (by decide) 3 _
theorem Db (C g p R:Nat)(gl:Gl)(aN d:Int)(S T U:Value)(A:Option Addr)(n c:Nat)(ws:List P3)(V:aN=1\/aN=2\/aN=3\/aN=5)(W:Bk v C oU #[S,T,U,(),(),.int .i64 0])(X:i8 v g p d)(hG:qT v p R gl)(hp:p<v)(p1:p≠g)(p2:p≠C)(p3:R≠g)(p4:R≠C)(Y:i7 v fE A n 3 (dP ws))(hn:n<=1000000000):
  Calls Tryz.prog 106 #[.pointer (g,0),aN,.slice A n c,.pointer (C,0)] v λe w'=>e=.returned (.tuple #[])/\pE v C g p S T U (wC gl d (af ws)) ((af ws).map (gX gl)) [] 0 w':=by
 have F:=J Y.rd.Z;have G:g≠C:=λe=>by
  subst e;have:=(dw X W).1
  revert this
  decide
 have Z:=J W;have HR:=J X;have HG:=J hG;have HW:=J Y;have HP:=J hp;clear W X hG Y hp;go_enter Tryz.func106,Tryz.ntmps106
 rcases V with rfl|rfl|rfl|rfl
 all_goals
  go_wp2;go_loopw [18] (λi wr=>∃k:Nat,k<=n/\i=.int .i64 k/\pE v C g p S T U (wC gl d ((af ws).take k)) (((af ws).take k).map (gX gl)) [] 0 wr) (λi _=>n - (intOf i).toNat)
  case atStart=>exact⟨0,nz _,rfl,⟨none,0,none,0,Z,World.ownsRow_nil _ _ _ _,World.ownsRow_nil _ _ _ _⟩,HR,oe.refl _ _ _⟩
  case round=>
   obtain⟨k,V,rfl,⟨Ao,co,Ac,cc,r,H,m⟩,j,a⟩:=hrel;by_cases I:k<n
   .obtain⟨b,o,x,y,z,rfl,ar,s,q1,q2,q3⟩:=HW.rd.rB I;have t:=yg s;obtain⟨_,_,_,e9,g1⟩:∃E aM u,(some ⟨b,o,none⟩:Option Addr)=some ⟨E,aM,none⟩/\Bk wr E fE u:=by obtain⟨E,aM,u,e,V,-⟩:=(a.rS HR Z (by decide) (by decide) HW).2 (by omega);exact⟨E,aM,u,e,V⟩
    have NR:=(a.rS HR Z (by decide) (by decide) HW).rd;obtain⟨E,aM,x',y',z',e',yw,K,av,aw,ay⟩:=NR.rB I;obtain⟨rfl,rfl⟩:b=E/\o=aM:=by simpa using e'
    obtain⟨rfl,rfl,rfl⟩:x=x'/\y=y'/\z=z':=by have:=s.symm.trans K;simpa using this
    have aa:Hid (((af ws).take (k+1)).map (gX gl)=((af ws).take k).map (gX gl)++[gX gl z]):=by show _=_;rw[t,ra];rfl
    have ab:=J (DG gl d t);have l:Hid ((((af ws).take k).map (gX gl)).length=k):=by show _=_;rw[lE,ot,ji,F.out];omega
    have ac:wr.cell? (C,3)=some (.slice Ao (((af ws).take k).map (gX gl)).length co):=r.cell 3;have zc:C<wr.heap.size:=r.lt;have ad:=J (HG.two a HP p1 p2 p3 p4);have SE:=J (λer (h:i8 wr g p er)=>Dn ((wr.alloc (.cells #[x,y,.string z] fE)).drew) g p R gl er z (h.alloc _) (ad.below ((gD _ _).alloc (ae _) _).drew));generalize ak:((af ws).take k).map (gX gl)=aq at*
    generalize wC gl d ((af ws).take k)=er at*
    generalize gX gl z=vz at*
    rw[l.out]at ac;have aD:=a.size;have Hb:=J r;have Ho:=J H;have al:=J m;have w:=J j;have ao:=J a;clear s K t e' e9 g1 NR q1 q2 q3 ak r H m j a;go_wp2_with fail
    go_region_with (go_at_call 100;refine(SE _ (by exact w)).mono ?_;rintro e L ⟨rfl,M,f⟩;have B:(wr.alloc (.cells #[x,y,.string z] fE)).grownBy L (some g):=⟨f.os,f.tape,f.output,f.size,f.block⟩;have q:wr.grownBy L (some g):=dI (World.grownBy_alloc _ _ _) B;have b1:Bk L C oU _:=Bk.L q Hb (λe=>G e.symm);have k1:L.cell? (C,3)=some (.slice Ao k co):=(b1.cell 3).trans (by rw[<-l.out];rfl);have aE:=b1.lt;have N:=Ho.kept q (dC Ho w (by decide));have aL:=q.size;obtain⟨A6,c6,w2,O,P,Q,-⟩:=Bg iw 22 L v.heap.size _ co Ao _ #[vz] rfl N (by simp[Value.oneCell']) (by rw[l.out];omega) (by omega);obtain⟨D,x9,y9⟩:=pE.more Hb Ho al w ao G M B P Q;rw[l.out]at O x9;rw[l.out,<-aa.out,<-ab.out]at D;have ap:=J D;clear D P Q N b1 q B M f)
    all_goals
     go_wp2
     go_round
     case rel=>exact⟨k+1,by omega,by simp,ap⟩
     case measure=>simp[intOf];omega
   obtain rfl:k=n:=by omega
   have ht:Hid ((af ws).take k=af ws):=by show _=_;exact oY (by rw[ji,F.out];exact ae _)
   rw[ht.out]at r H j;have HO:Hid (pE v C g p S T U (wC gl d (af ws)) ((af ws).map (gX gl)) [] 0 wr):=⟨⟨_,_,_,_,r,H,m⟩,j,a⟩
   clear r H m j a;go_wp2
   go_end0
   exact⟨rfl,HO⟩
end
theorem ZE (f:iu)(a:List Value)(b:iN v)(c:nG<=v)(d:kt v (FT v) a f)(h:∀g∈f.ga,g.gk.length<=1000000000/\g.gO.length<=1000000000)(i:(mD f).length<=1000000000):
  Calls Tryz.prog 10 #[.agg a.toArray] v λe j=>e=.returned (.string (mD f))/\Below v v j:=by
 obtain⟨k,l,m,c2,n,c3,o,p,q,r,s,t,u,w,x,y,rfl,z,A,B,C,D,E,F,G,H⟩:=d;exact Nv v f k m n o q s u x l c2 c3 p r t w y b c z A B C D E F G H h i
