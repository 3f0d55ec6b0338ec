/- Lemmas. -/
import Derived.Test.YtalehhjjbadlpaaGreatDoorX14
set_option linter.all false
set_option maxRecDepth 100000
set_option maxHeartbeats 32000000
namespace Go.Proofs.YtalehhjjbadlpaaGreatDoor
open Go.RowKit
variable(v:World)
theorem Vg (g:hU)(B3 B4 B5 ak B7 B8:Option Addr)(d3 d4 d5 Q d7 d8:Nat)(h:Sl mc 4 v (Lw v) ak g.gh)(hl:ip g.gh.length):Calls Tryz.prog 123 #[.agg #[.string g.gn,g.gL,.bool g.i6,B3 g.gk.length d3,B4 g.gO.length d4,B5 g.gi.length d5,ak g.gh.length Q,B7 g.gx.length d7,B8 g.gR.length d8]] v (iz v (g.gh.length<=16/\∀a∈g.gh,1<=a.gd/\a.gd<=4/\N9 a.ia/\N9 a.x/\N9 a.y)):=by
 obtain⟨P,HP⟩:∃P:Prop,Hid (P=(g.gh.length<=16/\∀a∈g.gh,1<=a.gd/\a.gd<=4/\N9 a.ia/\N9 a.x/\N9 a.y)):=⟨_,rfl⟩
 rw[<-HP.out];unfold ip at*
 have H:=J h;clear h;obtain⟨q,qE,A,s⟩:=aO v 52 #[.string g.gn,g.gL,.bool g.i6,B3 g.gk.length d3,B4 g.gO.length d4,B5 g.gi.length d5,ak g.gh.length Q,B7 g.gx.length d7,B8 g.gR.length d8];have K:Hid (Below v v q):=J A;have B:=J s;go_enter Tryz.func123,Tryz.ntmps123
 have C:=K.size;clear A s;have n6:q.cell? (v,6)=some (ak g.gh.length Q):=B.cell 6;by_cases hm:16<g.gh.length
 .have bm:decide ((16:Int)<g.gh.length)=true:=decide_eq_true (by omega);go_wp2_with fail
  go_ret
  exact iz.bad _ (by decide) K
 have bm:decide ((16:Int)<g.gh.length)=false:=decide_eq_false (by omega);go_wp2_with fail
 try rw[qE]
 clear n6 qE;go_loopw [3] (λi wr=>∃k:Nat,k<=g.gh.length/\i=.int .i64 k/\Hid (Up g.gh k (λa=>1<=a.gd/\a.gd<=4/\N9 a.ia/\N9 a.x/\N9 a.y))/\Below q q wr) (λi _=>g.gh.length - (intOf i).toNat)
 case atStart=>exact⟨0,by omega,rfl,J (Up.zero _ _),gD _ _⟩
 case round=>
  obtain⟨w1,rfl⟩:∃x,x=wr:=⟨_,rfl⟩
  obtain⟨k,hk,rfl,t,d⟩:=hrel;have x6:=B.at d 6 rfl;have mG:Hid (Below v v w1):=J (K.trans (d.mono C));by_cases R:k<g.gh.length
  .obtain⟨b,o,x,rfl,hb,L,q0,q1,q2,q3,-,-,-,-⟩:=(H.lw mc.ok mG).oi R;obtain⟨M,ac,D,f⟩:=aO w1 56 #[.int .i64 x.gd,.int .i64 x.ia,.int .i64 x.x,.int .i64 x.y];have l:Hid (Below q q M):=J (d.trans (D.mono d.size));have n:Hid (Below v v M):=J (K.trans (l.mono C));have S:=J (Bk.l B l);have E:=J f;have y2:=B.at l 2 rfl;have p0:=f.cell 0;have p1:=f.cell 1;have p2:=f.cell 2;have p3:=f.cell 3;clear hb D f d;by_cases h1:x.gd<1
   .go_wp2_with (first|(go_at_call 84;refine(dQ _ _).mono ?_;rintro e r ⟨rfl,rfl⟩))
    go_ret
    exact iz.bad _ (by decide) n
   have T:decide (x.gd<1)=false:=decide_eq_false h1;by_cases h2:4<x.gd
   .go_wp2_with (first|(go_at_call 84;refine(dQ _ _).mono ?_;rintro e r ⟨rfl,rfl⟩))
    go_ret
    exact iz.bad _ (by decide) n
   have pF:decide (4<x.gd)=false:=decide_eq_false h2;by_cases h3:x.ia<0
   .go_wp2_with (first|(go_at_call 84;refine(dQ _ _).mono ?_;rintro e r ⟨rfl,rfl⟩))
    go_ret
    exact iz.bad _ (by decide) n
   have nJ:decide (x.ia<0)=false:=decide_eq_false h3;by_cases h4:15<x.ia
   .go_wp2_with (first|(go_at_call 84;refine(dQ _ _).mono ?_;rintro e r ⟨rfl,rfl⟩))
    go_ret
    exact iz.bad _ (by decide) n
   have zi:decide (15<x.ia)=false:=decide_eq_false h4;by_cases U:2<x.gd/\¬x.ia=0
   .have u:(x.ia !=0)=true:=by simpa using U.2
    go_wp2_with (first|(go_at_call 84;refine(dQ _ _).mono ?_;rintro e r ⟨rfl,rfl⟩))
    go_ret
    exact iz.bad _ (by decide) n
   have p:(decide (2<x.gd)=true/\(x.ia !=0)=false)\/decide (2<x.gd)=false:=by
    by_cases m:2<x.gd
    .exact .inl ⟨decide_eq_true m,by have:x.ia=0:=Decidable.not_not.1 λN=>U ⟨m,N⟩;simp[this]⟩
    exact .inr (decide_eq_false m)
   by_cases h7:gZ x.x=false
   .rcases p with⟨Az,u⟩|Az
    all_goals
     go_wp2_with (first|(go_at_call 84;refine(dQ _ _).mono ?_;rintro e r ⟨rfl,rfl⟩))
     go_ret
     exact iz.bad _ (by decide) n
   have V:gZ x.x=true:=by simpa using h7
   by_cases h8:gZ x.y=false
   .rcases p with⟨Az,u⟩|Az
    all_goals
     go_wp2_with (first|(go_at_call 84;refine(dQ _ _).mono ?_;rintro e r ⟨rfl,rfl⟩))
     go_ret
     exact iz.bad _ (by decide) n
   have W:gZ x.y=true:=by simpa using h8
   by_cases h9:x.gd=2/\g.i6=false
   .obtain⟨m,N⟩:=h9;have w:(x.gd==2)=true:=by simp[m]
    rw[N]at y2;have Az:decide (2<x.gd)=false:=decide_eq_false (by omega);clear m N;go_wp2_with (first|(go_at_call 84;refine(dQ _ _).mono ?_;rintro e r ⟨rfl,rfl⟩))
    go_ret
    exact iz.bad _ (by decide) n
   have dN:=J (t.snoc L ⟨by omega,by omega,by unfold N9;omega,pK V,pK W⟩);have X:((x.gd==2)=true/\g.i6=true/\decide (2<x.gd)=false)\/((x.gd==2)=false/\decide (2<x.gd)=true/\(x.ia !=0)=false)\/((x.gd==2)=false/\decide (2<x.gd)=false):=by
    by_cases m:x.gd=2
    .refine .inl ⟨by simp[m],?_,decide_eq_false (by omega)⟩;cases Y:g.i6
     .exact absurd ⟨m,Y⟩ h9
     rfl
    rcases p with⟨b5,b6⟩|b5
    .exact .inr (.inl ⟨by simpa using m,b5,b6⟩)
    exact .inr (.inr ⟨by simpa using m,b5⟩)
   clear L t p;have s:k<10000000000000:=by omega
   rcases X with⟨w,F,Az⟩|⟨w,Az,u⟩|⟨w,Az⟩
   all_goals
    try(rw[F]at y2;clear F)
    go_wp2_with (first|(go_at_call 84;refine(dQ _ _).mono ?_;rintro e r ⟨rfl,rfl⟩))
    go_loopw [7] (λZ O=>∃j:Nat,j<=k/\Z=.int .i64 j/\Below M M O) (λZ _=>k - (intOf Z).toNat)
    case atStart=>exact⟨0,by omega,rfl,gD _ _⟩
    case round=>
     obtain⟨O,rfl⟩:∃x,x=wr:=⟨_,rfl⟩
     obtain⟨j,hj,rfl,c⟩:=hrel;have G:=J c;have z6:=S.at c 6 rfl;have u0:=E.at c 0 rfl;have u1:=E.at c 1 rfl;have I:Hid (Below v v O):=J (n.trans (c.mono n.size));have aa:Hid (Below q q O):=J (l.trans (c.mono l.size));clear c;by_cases ad:j<k
     .obtain⟨b2,o2,z,e2,c,ab,v0,v1,v2,v3,-,-,-,-⟩:=(H.lw mc.ok I).oi (k:=j) (by omega);obtain⟨rfl,rfl⟩:b=b2/\o=o2:=by simpa using e2
      clear c v2 v3 e2 ab;by_cases m1:¬z.gd=x.gd
      .have BI:(z.gd==x.gd)=false:=by simpa using m1
       go_wp2_with fail
       go_quiet (fail)
       go_wp2_with fail
       go_roundw
       case rel=>exact⟨j+1,by omega,by simp,below_drewN G _⟩
       case measure=>simp[intOf];omega
      have BI:(z.gd==x.gd)=true:=by simpa using m1
      by_cases m2:z.ia=x.ia
      .have Ls:(z.ia==x.ia)=true:=by simpa using m2
       go_wp2_with fail
       go_quiet (fail)
       go_wp2_with fail
       go_ret
       exact iz.bad _ (by decide) (below_drewN I _)
      have Ls:(z.ia==x.ia)=false:=by simpa using m2
      go_wp2_with fail
      go_quiet (fail)
      go_wp2_with fail
      go_roundw
      case rel=>exact⟨j+1,by omega,by simp,below_drewN G _⟩
      case measure=>simp[intOf];omega
     obtain rfl:j=k:=by omega
     go_wp2_with fail
     go_roundw
     case rel=>exact⟨j+1,by omega,by simp,dN,aa⟩
     case measure=>simp[intOf];omega
  obtain rfl:k=g.gh.length:=by omega
  have hg:P:=HP.mpr ⟨by omega,λx L=>t.all x L⟩;clear d;go_wp2_with fail
  go_ret
  exact iz.O hg mG
section
attribute [-go_sem] Builtin.append_
theorem FJ (m:Nat)(fs:Nat->Value)(lp:Int)(G:Nat)(X:Option Addr)(Y:Nat)(Ac:Option Addr)(nc cc:Nat)(h:Mk v m fs lp)(hf:fs 1= X G Y)(h1:1<=G)(hG:G<=1000):Calls Tryz.prog 76 #[.pointer (m,0),.int .i64 6,Ac nc cc] v (ng v m fs lp G 6):=by
 have c:=h.lt;have qg:v.cell? (m,3)=some (X G Y):=by have:=h.cells.1 1 (by omega);rw[hf]at this;exact this
 have H:=J h;have HF:=J hf;clear h hf;go_enter Tryz.func76,Tryz.ntmps76
 go_wp2_with fail
 obtain⟨E,d⟩:∃E,(v.alloc (.cells gU dD)).alloc (.cells gU dD)=E:=⟨_,rfl⟩
 have HR:Hid (RS v m fs lp gU E):=by rw[<-d];exact J (RS.begin H)
 have z0:E.heap.size=v.heap.size+2:=by rw[<-d];simp
 unfold gU at d;rw[d];clear d qg;refine(uj E m fs lp G X Y HR.b HF h1 hG).mono ?_;rintro e u ⟨s,F,Z,hs,ao,rfl,I,ap,w⟩;have f:=J (HR.next ap w);have xy:=J (il.of gS.ok I);have HS:=J hs;have z1:=w.size;have x1:u.cell? (v.heap.size+1,1)=some (.slice none 0 0):=f.cell 1;have y1:=f.var.frozen 1;have zr:=f.var.lt;clear I ap w HR hs;go_wp2_with fail
 obtain⟨q,y⟩:∃q,(u.setCell (v.heap.size+1,1) (.slice (u,0) 1 1)).alloc (.cells #[F s.length Z] kl)=q:=⟨_,rfl⟩
 rw[y];obtain⟨K,L,M,z2⟩:=f.tD c xy (by omega) (by omega) y;have n:=J K;have F2:=J L;have O2:=J M;clear K L M y x1 y1 f xy;have x2:q.cell? (v.heap.size+1,1)=some (.slice (u,0) 1 1):=n.cell 1;have jP:v.heap.size+1≠m:=by omega
 have dh:True:=trivial
 first|(go_region_with (go_at_call 118;have _t:=dh;refine(uj _ m fs lp G X Y (by exact n.drew.b) HF h1 hG).mono ?_;rintro e w3 ⟨t,At,ct,ht,aa,rfl,N,bK,i⟩;have x3:=dW i jP x2;have z:=n.drew.next bK i;have z3:=i.size;have MW:=z.var.lt;have o3:=(Sp.next n.drew.b i).own (show q.drew.ownsRow (v.heap.size+2) kl 1 (.slice (u,0) 1 1) 1 [F s.length Z]from O2) (by decide);have F3:=J (il.next gS.ok (show Sl gS 1 q.drew (TR [aK] E.heap.size u.heap.size q.drew) F s from F2.out) (by omega) i);have FT:=J (il.of gS.ok N);obtain⟨o,p,w9,O,x9,y9,ay,aW,h9⟩:=z.more c LV (by decide) (by decide) (j:=1) (by omega) (by omega) rfl o3 #[At t.length ct] rfl (by simp[Value.oneCell']) (by omega);have A:=J ay;have mf:=J aW;have jl:=J h9;have HT:=J ht;clear _t dh z o3 ay aW h9 N ht aa))|fail
 all_goals
  have P:Hid (RS v m fs lp #[(),o 2 p,(),(),(),.int .i64 0] (w9.setCell (v.heap.size+1,1) (o 2 p))):=J (jl.put c 1 _);have B:=J ((Sp.set jl.var (show m<=v.heap.size+1 by omega) 1 (o 2 p)).own mf (by decide));have C:=J (il.put gS.ok (il.row gS.ok F3 A (λx hx=>by simp[Value.ownBlock]at hx;exact .inr (by omega))) (g:=v.heap.size+1) (.inl (by omega)) 1 (o 2 p));have D:=J (il.put gS.ok (il.row gS.ok FT A (λx hx=>by simp[Value.ownBlock]at hx;exact .inl (by simp;omega))) (g:=v.heap.size+1) (.inl (by simp;omega)) 1 (o 2 p));have zd:q.drew.heap.size=u.heap.size+1:=z2;obtain⟨Wa,Q⟩:∃Wa,w9.setCell (v.heap.size+1,1) (o 2 p)=Wa:=⟨_,rfl⟩
  rw[Q]at P B C D ⊢;clear Q A mf jl F3 FT O x9 y9 x3;go_wp2_with fail
  refine(aA Wa m fs lp 41 P.b (by omega) (by omega)).mono ?_;rintro e b ⟨x,hx,rfl,S,k⟩;have a:=J (P.next S k);have ab:=J ((Sp.next P.b k).own B (by decide));have ac:=J (il.next gS.ok C (by omega) k);have ad:=J (il.next gS.ok D (by omega) k);clear S k P B C D;have v5:b.cell? (v.heap.size+1,5)=some (.int .i64 0):=a.cell 5;have y5:=a.var.frozen 5;have v0:b.cell? (v.heap.size+1,0)=some (.slice none 0 0):=a.cell 0;have v1:b.cell? (v.heap.size+1,1)=some (o 2 p):=a.cell 1;have v2:b.cell? (v.heap.size+1,2)=some (.slice none 0 0):=a.cell 2;have v3:b.cell? (v.heap.size+1,3)=some (.slice none 0 0):=a.cell 3;have v4:b.cell? (v.heap.size+1,4)=some (.slice none 0 0):=a.cell 4;have r0:b.cell? (v,0)=some (.slice none 0 0):=a.c.cell 0;have r1:b.cell? (v,1)=some (.slice none 0 0):=a.c.cell 1;have r2:b.cell? (v,2)=some (.slice none 0 0):=a.c.cell 2;have r3:b.cell? (v,3)=some (.slice none 0 0):=a.c.cell 3;have r4:b.cell? (v,4)=some (.slice none 0 0):=a.c.cell 4;have r5:b.cell? (v,5)=some (.int .i64 0):=a.c.cell 5;have f0:=a.c.frozen 0;have f1:=a.c.frozen 1;have f2:=a.c.frozen 2;have f3:=a.c.frozen 3;have f4:=a.c.frozen 4;have f5:=a.c.frozen 5;go_wp2_with fail
  have Z9:RS v m fs lp #[(),o 2 p,(),(),(),.int .i64 ((x:Int)*10 - 200)] (b.setCell (v.heap.size+1,5) (.int .i64 ((x:Int)*10 - 200))):=a.put c 5 _;have ak:=Sp.set (m:=m) a.var (show m<=v.heap.size+1 by omega) 5 (.int .i64 ((x:Int)*10 - 200));have T:=ak.own ab (by decide);have U:=il.J gS.ok (il.put gS.ok ac (g:=v.heap.size+1) (.inl (by omega)) 5 (.int .i64 ((x:Int)*10 - 200))) (ts':=jQ) (base:=v.heap.size) (by decide) (by omega);have V:=il.J gS.ok (il.put gS.ok ad (g:=v.heap.size+1) (.inl (by omega)) 5 (.int .i64 ((x:Int)*10 - 200))) (ts':=jQ) (base:=v.heap.size) (by decide) (by omega);obtain⟨Wc,W⟩:∃Wc,b.setCell (v.heap.size+1,5) (.int .i64 ((x:Int)*10 - 200))=Wc:=⟨_,rfl⟩
  rw[W]at Z9 T U V;have al:Fl gT 1 Wc (TS jQ v.heap.size Wc) [F s.length Z,At t.length ct] [s,t]:=(Fl.one (R:=gT) ⟨F,Z,rfl,U⟩ rfl).append (Fl.one (R:=gT) ⟨At,ct,rfl,V⟩ rfl);have hr:mu G 6 ⟨[],[s,t],[],[],[],(x:Int)*10 - 200⟩:=mu.mk' (.nil _ _) (((li.one HS).app (li.one HT)).mono (by omega)) (.nil _ _) (by simp) (by simp) (show N9 ((x:Int)*10 - 200)from by unfold N9;omega) (λh=>absurd h (by decide)) (λ_=>rfl) (λ_=>rfl) (λh=>absurd rfl h);have l:=lu (G:=G) (gd:=6) (r:=⟨[],[s,t],[],[],[],(x:Int)*10 - 200⟩) (A0:=none) (A1:=o) (A2:=none) (A3:=none) (A4:=none) (c0:=0) (c1:=p) (c2:=0) (c3:=0) (c4:=0) Z9 c hr (show gN ((x:Int)*10 - 200)from by unfold gN;omega) Sl.nil (dV T al (by decide) (by omega) (by omega)) Sl.nil Sl.nil Sl.nil;rw[<-W]at l;exact bodyPost_ret (fA l.1 rfl rfl) rfl l.2
theorem Vf (v:World)(i:Gl)(s:PS)(d:B)(r:List B)(a:List P3)(f:af a=r):(jK a=none->mV i s (d::r)=.error 22)/\(∀b,jK a=some b->b.length≠1->mV i s (d::r)=.error 22)/\(∀row,jK a=some [row]->fK r=some [af row]):=by
 have h:=oP a;rw[f]at h;refine⟨λe=> ?_,λb e g=> ?_,λrow e=> ?_⟩
 .rw[e]at h;exact Jl _ _ _ _ λrow c=>by rw[h]at c;cases c
 .rw[e]at h;refine Jl _ _ _ _ λrow c=> ?_
  rw[h]at c;injection c with c
  have:=congrArg List.length c;simp at this;exact g this
 rw[e]at h;exact h
theorem Uj (Bd p gm cm:Nat)(gl:Gl)(s:PS)(rv:Rows)(K:Nat)(A:Option Addr)(n c:Nat)(ws:List P3)(t:B)(l:List B)(hP:ie v Bd p gm cm gl s rv K)(R:lR v A n ws)(hT:af ws=t::l)(hc:n<=c):
  Calls Tryz.prog 48 #[.pointer (p,0),A n c] v (iS v Bd p gm cm gl (K+n) (mV gl s l)):=by
 have hn:n=l.length+1:=by rw[<-R.length];exact dR hT
 have hB:=hP.size;have a4:=R.i;cases l with
 |nil=>
  have HR:Hid (mV gl s []=.error 22):=rfl;simp only[ln]at hn;subst hn;clear hP R hT hc;go_enter Tryz.func48,Tryz.ntmps48
  go_wp2;go_ret
  exact iS.bad HR (gD _ _)
 |cons i r=>
  have a5:=R.length;obtain⟨A',a3,ac,ad⟩:=R.sub hc 2 2 rfl (by simp at hn;omega);obtain⟨b,o,rfl,hb,q1,aL⟩:=R.word (k:=1) (t:=i) (by rw[hT];rfl) (d:=3) rfl;have E:af (ws.drop 2)=r:=by rw[GK,hT];rfl
  obtain⟨c1,c2,c3⟩:=Vf v gl s i r (ws.drop 2) E;have I:(ws.drop 2).length<=1000000000:=by rw[tw];omega
  have P:=J (UQ v (ws.drop 2) v.heap.size A' (n - 2) (c - 2) ac.rd (ae _) (by omega));have HP:=J hP;have a6:p<v.heap.size:=hP.par.lt;have tK:=J (λv rb er h=>BZ v rb p er i h);have a7:2<=n:=by simp at hn;omega
  have en:((n:Int)<2)=False:=by simp;omega
  have aM:=J c1;have aQ:=J c2;have aR:=J c3;have QF:=J I;generalize ws.drop 2=S at*
  clear hP R hT ac ad hn aL E c1 c2 c3 I;go_enter Tryz.func48,Tryz.ntmps48
  cases C:jK S with
  |none=>
   have HR:=J (aM C);have D:∀e T,iO 101 96 v S e T->e=.returned (.tuple #[(),.bool false])/\Below v.heap.size v T:=λe T h=>by unfold iO at h;rw[C]at h;exact h
   have U:=J D;clear D C;go_wp2_with fail
   refine P.mono ?_;rintro e w1 j;obtain⟨rfl,bc⟩:=U _ _ j;clear j;go_wp2;go_ret
   exact iS.bad HR (bc.mono hB)
  |some m=>
   have D:∀e T,iO 101 96 v S e T->∃w,e=.returned (.tuple #[w,.bool true])/\yM 101 96 v T m w:=λe T h=>by unfold iO at h;rw[C]at h;exact h
   have U:=J D;have V:=J C;clear D C;go_wp2_with fail
   refine P.mono ?_;rintro e w1 j;obtain⟨w,rfl,A2,c2,hs,rfl,ak,al,bc⟩:=U _ _ j;have W:=J bc;have ZW:=J al;have KJ:=J ak;clear j bc al ak;by_cases y:m.length=1
   .obtain⟨g,rfl⟩:∃g,m=[g]:=by
     match m,y with
     |[a],_=>exact⟨a,rfl⟩
    have ao:=J (aR g V);have ap:=(yK V).2 g (by simp);have I:=QF.out;obtain⟨Ar,kr,cr,aq,X,a8⟩:=ZW.2 0 g rfl;obtain⟨b2,o2,Jy,rfl,q,ar⟩:=KJ.2 (by simp);have z2:w1.cell? (b2,o2)=some (Ar kr cr):=(q.cell o2).trans (ar 0 _ aq);have Fv:b2<w1.heap.size:=q.lt;have aW:kr=g.length:=X.rd.Z.symm;have a0:kr<=1000000000:=by omega
    have a1:=J X;clear X q ar aq ap I y aW;simp only[aV,ln,mU];go_wp2_with fail
    refine(iE w1 p).mono ?_;rintro e w2 ⟨rfl,Y,q⟩;have Z:=W.size;have av:Hid (Below v.heap.size v w2):=W.trans (q.mono Z);have QM:=J (a1.below q);have z3:w2.cell? (b2,o2)=some (Ar kr cr):=((aj q).1 _ _ Fv).trans z2;have q2:w2.cell? (b,o+3+2)=some (.string i):=((aj av).1 _ _ hb).trans q1;have a9:=Y.lt;have D:=q.size;have nO:=J Y;have a2:=J q;clear Y q;go_wp2_with fail
    refine(tK _ _ _ (by exact nO)).mono ?_;rintro e w3 ⟨rfl,aw,F⟩;have aD:=J (bu av F Z);have z4:w3.cell? (b2,o2)=some (Ar kr cr):=((aj (bu a2 F (ae _))).1 _ _ Fv).trans z2;have QN:=J (Og QM nO F);have IZ:=J ((HP.below aD).at);have ou:=J aw;have ba:=F.size;clear aw F;go_wp2_with fail
    refine(AE w3 w1.heap.size p gm cm gl s.ia (bQ 0 i) Ar kr cr g ou IZ QN a0).mono ?_;rintro e w4 ⟨w,rfl,A5,c5,rfl,AQ,qP,L⟩;have u:=bu aD L Z;have k5:w4.cell? (w1,1)=some (.int .i64 (bC gl s.ia (bQ 0 i) [] (af g)).1):=qP.cell 1;by_cases x:(bC gl s.ia (bQ 0 i) [] (af g)).1=0
    .obtain⟨M,aE⟩:=Ct gl s i r (af g) ao x;have Wu:=Xh gl s.ia HP.m HP.BW (bQ 0 i) [] (by simp) (af g);rw[x]at k5;generalize (bC gl s.ia (bQ 0 i) [] (af g)).2=G at*
     have aN:=HP.below u;obtain⟨f,N,O⟩:=aN.ia;have Au:w4.cell? (p,11)=some (.map (some cm)):=aN.par.cell 11;have zp:p<w4.heap.size:=aN.par.lt;have aa:=N.ss Tryz.underlying91 Tryz.underlying9 (Xy _) i;have z:(Instr.lookup 91 (.map (some cm)) (.string i) true).run Tryz.prog w4=.ok (.tuple #[(f i).getD (.slice none 0 0),.bool (f i).isSome]) w4:=aa;rcases O i with⟨g1,g2⟩|⟨l9,A9,c9,g1,g2,g3,g4⟩
     .have H:Hid (mV gl s (i::r)=.ok {s with ia:=s.ia++[(i,G)]}):=by
       show _=_;rw[M,g1];rfl
      rw[g2]at z;simp only[Option.getD_none,Option.isSome_none]at z;obtain⟨w9,Q,uX,ay⟩:=N.put Tryz.underlying91 Tryz.underlying9 i (A5 G.length c5) g2;have bb:(Instr.mapUpdate 91 (.map (some cm)) (.string i) (A5 G.length c5)).run Tryz.prog w4=.ok () w9:=Q;have ab:=J (aN.ary (l:=G) (Sl.pk AQ (FU _ _ _ Wu) (HP.fresh AQ (by omega) (by decide)) (by decide)) (by omega) g1 O uX ay);have HQ:=J (KQ.below (cm:=cm) u);have vU:=J (u.mono hB);clear M aE Wu N O aa Q uX ay aN AQ qP L u x g1 g2;go_wp2_with fail
      go_ret
      exact iS.O H (vU.trans ab.2.2) (HQ.trans ab.2.1) (ab.1.mono (pH _ _))
     have H:Hid (mV gl s (i::r)=.error 24):=by show _=_;rw[M,g1];rfl
     rw[g2]at z;simp only[Option.getD_some,Option.isSome_some]at z;have vU:=J (u.mono hB);clear M aE Wu N O aa aN AQ qP L u x g1 g2 g3 g4;go_wp2_with fail
     go_ret
     exact iS.bad H vU
    have H:=J (Y3 gl s i r (af g) ao x);generalize (bC gl s.ia (bQ 0 i) [] (af g)).1=er at*
    generalize (bC gl s.ia (bQ 0 i) [] (af g)).2=G at*
    have e1:(er==0)=false:=by simpa using x
    have e2:(er !=0)=true:=by simpa using x
    have vU:=J (u.mono hB);clear AQ qP L u x;go_wp2_with fail
    go_ret
    exact iS.bad H vU
   have HR:=J (aQ m V y);have e1:((m.length:Int)==1)=false:=by simp;omega
   have e2:((m.length:Int) !=1)=true:=by simp;omega
   clear y;go_wp2;go_ret
   exact iS.bad HR (W.mono hB)
end
theorem Y8 (f:iu)(A1 A2 A3 A4 A5 V K L:Option Addr)(c1 c2 c3 c4 c5 M N O:Nat)(g:hU)(B3 B4 B5 B6 C B8:Option Addr)(d3 d4 d5 d6 Q d8:Nat)(h:Sl md 4 v (Lw v) C g.gx)(hl:ip g.gx.length)(hn:ip f.d'.length)(hp:ip g.gk.length):Calls Tryz.prog 124 #[.agg #[f.gt,A1 f.ga.length c1,A2 f.f6.length c2,A3 f.ge.length c3,A4 f.a'.length c4,A5 f.gM.length c5,V f.d'.length M,K f.fY.length N,L f.gP.length O],.agg #[.string g.gn,g.gL,.bool g.i6,B3 g.gk.length d3,B4 g.gO.length d4,B5 g.gi.length d5,B6 g.gh.length d6,C g.gx.length Q,B8 g.gR.length d8]] v (iz v (g.gx.length<=400/\∀d∈g.gx,In f.d'.length d.region/\(-1<=d.ii/\d.ii<g.gk.length)/\N9 d.x/\N9 d.y)):=by
 obtain⟨P,HP⟩:∃P:Prop,Hid (P=(g.gx.length<=400/\∀d∈g.gx,In f.d'.length d.region/\(-1<=d.ii/\d.ii<g.gk.length)/\N9 d.x/\N9 d.y)):=⟨_,rfl⟩
 rw[<-HP.out];unfold ip at*
 have H:=J h;clear h;obtain⟨R,u,w,S⟩:=aO v 32 #[f.gt,A1 f.ga.length c1,A2 f.f6.length c2,A3 f.ge.length c3,A4 f.a'.length c4,A5 f.gM.length c5,V f.d'.length M,K f.fY.length N,L f.gP.length O];have bH:Hid (Below v v R):=J w;have kK:=J S;obtain⟨q,qE,r,z⟩:=aO R 52 #[.string g.gn,g.gL,.bool g.i6,B3 g.gk.length d3,B4 g.gO.length d4,B5 g.gi.length d5,B6 g.gh.length d6,C g.gx.length Q,B8 g.gR.length d8];have D:Hid (Below v v q):=J (bH.trans (r.mono bH.size));have E:=J z;have aQ:Hid (Bk q v.heap.size 32 #[f.gt,A1 f.ga.length c1,A2 f.f6.length c2,A3 f.ge.length c3,A4 f.a'.length c4,A5 f.gM.length c5,V f.d'.length M,K f.fY.length N,L f.gP.length O]):=J (Bk.l S r);go_enter Tryz.func124,Tryz.ntmps124
 have A:=D.size;clear w S r z kK;have n7:q.cell? (R,7)=some (C g.gx.length Q):=E.cell 7;by_cases hm:400<g.gx.length
 .have bm:decide ((400:Int)<g.gx.length)=true:=decide_eq_true (by omega);go_wp2_with fail
  go_ret
  exact iz.bad _ (by decide) D
 have bm:decide ((400:Int)<g.gx.length)=false:=decide_eq_false (by omega);go_wp2_with fail
 try rw[u]
 try rw[qE]
 clear n7 qE u;go_loopw [5] (λi wr=>∃k:Nat,k<=g.gx.length/\i=.int .i64 k/\Hid (Up g.gx k (λd=>In f.d'.length d.region/\(-1<=d.ii/\d.ii<g.gk.length)/\N9 d.x/\N9 d.y))/\Below q q wr) (λi _=>g.gx.length - (intOf i).toNat)
 case atStart=>exact⟨0,by omega,rfl,J (Up.zero _ _),gD _ _⟩
 case round=>
  obtain⟨w1,rfl⟩:∃x,x=wr:=⟨_,rfl⟩
  obtain⟨k,hk,rfl,s,c⟩:=hrel;have x7:=E.at c 7 rfl;have mG:Hid (Below v v w1):=J (D.trans (c.mono A));by_cases T:k<g.gx.length
  .obtain⟨b,o,x,rfl,hb,F,q0,q1,q2,q3,-,-,-,-⟩:=(H.lw md.ok mG).delta T;obtain⟨W1,al,B,l⟩:=aO w1 58 #[.int .i64 x.region,.int .i64 x.ii,.int .i64 x.x,.int .i64 x.y];have a:Hid (Below q q W1):=J (c.trans (B.mono c.size));have m:Hid (Below v v W1):=J (D.trans (a.mono A));have y6:=aQ.at a 6 rfl;have y3:=E.at a 3 rfl;have y7:=E.at a 7 rfl;have p0:=l.cell 0;have p1:=l.cell 1;have p2:=l.cell 2;have p3:=l.cell 3;clear hb B l c;by_cases U:x.region<0
   .go_wp2_with fail
    go_ret
    exact iz.bad _ (by decide) m
   by_cases W:(f.d'.length:Int)<=x.region
   .go_wp2_with fail
    go_ret
    exact iz.bad _ (by decide) m
   by_cases h3:x.ii< -1
   .go_wp2_with (first|(go_at_call 84;refine(dQ _ _).mono ?_;rintro e n ⟨rfl,rfl⟩))
    go_ret
    exact iz.bad _ (by decide) m
   have nJ:decide (x.ii< -1)=false:=decide_eq_false h3;by_cases h4:(g.gk.length:Int)<=x.ii
   .go_wp2_with (first|(go_at_call 84;refine(dQ _ _).mono ?_;rintro e n ⟨rfl,rfl⟩))
    go_ret
    exact iz.bad _ (by decide) m
   have zi:decide ((g.gk.length:Int)<=x.ii)=false:=decide_eq_false h4;by_cases h5:gZ x.x=false
   .go_wp2_with (first|(go_at_call 84;refine(dQ _ _).mono ?_;rintro e n ⟨rfl,rfl⟩))
    go_ret
    exact iz.bad _ (by decide) m
   have Az:gZ x.x=true:=by simpa using h5
   by_cases h6:gZ x.y=false
   .go_wp2_with (first|(go_at_call 84;refine(dQ _ _).mono ?_;rintro e n ⟨rfl,rfl⟩))
    go_ret
    exact iz.bad _ (by decide) m
   have X:gZ x.y=true:=by simpa using h6
   by_cases Y:x.ii= -1/\¬x.y=0
   .obtain⟨t,G⟩:=Y;have bh7:(x.ii== -1)=true:=by simp[t]
    have Z:(x.y !=0)=true:=by simpa using G
    clear t G;go_wp2_with (first|(go_at_call 84;refine(dQ _ _).mono ?_;rintro e n ⟨rfl,rfl⟩))
    go_ret
    exact iz.bad _ (by decide) m
   have dN:=J (s.snoc F ⟨In.of U W,⟨by omega,by omega⟩,pK Az,pK X⟩);have aa:((x.ii== -1)=true/\(x.y !=0)=false)\/(x.ii== -1)=false:=by
    by_cases t:x.ii= -1
    .exact .inl ⟨by simp[t],by have:x.y=0:=Decidable.not_not.1 λG=>Y ⟨t,G⟩;simp[this]⟩
    exact .inr (by simpa using t)
   clear F s Y;rcases aa with⟨bh7,Z⟩|bh7
   all_goals
    by_cases ab:k=0
    .subst ab;have e0:((0:Nat):Int)=0:=rfl;rw[e0];simp only[Nat.zero_mul,Nat.add_zero]at q0 q1 q2 q3;go_wp2_with (first|(go_at_call 84;refine(dQ _ _).mono ?_;rintro e n ⟨rfl,rfl⟩))
     go_quiet (fail)
     go_wp2_with fail
     go_roundw
     case rel=>exact⟨0+1,by omega,by simp,dN,below_drewN a _⟩
     case measure=>simp[intOf];omega
    obtain⟨j,rfl⟩:∃j,k=j+1:=⟨k - 1,by omega⟩
    obtain⟨b',o',p,e',ac,ad,v0,v1,v2,v3,-,-,-,-⟩:=(H.lw md.ok m).delta (k:=j) (by omega);obtain⟨rfl,rfl⟩:b=b'/\o=o':=by simpa using e'
    clear ac e' ad v2 v3;by_cases m1:x.region<p.region
    .go_wp2_with (first|(go_at_call 84;refine(dQ _ _).mono ?_;rintro e n ⟨rfl,rfl⟩))
     go_quiet (fail)
     go_wp2_with fail
     go_ret
     exact iz.bad _ (by decide) (below_drewN m _)
    have BI:decide (x.region<p.region)=false:=decide_eq_false m1;by_cases I:¬x.region=p.region
    .have Ls:(x.region==p.region)=false:=by simpa using I
     clear I;go_wp2_with (first|(go_at_call 84;refine(dQ _ _).mono ?_;rintro e n ⟨rfl,rfl⟩))
     go_quiet (fail)
     go_wp2_with fail
     go_roundw
     case rel=>exact⟨j+1+1,by omega,by simp,dN,below_drewN a _⟩
     case measure=>simp[intOf];omega
    have Ls:(x.region==p.region)=true:=by simpa using I
    clear I m1;by_cases m3:x.ii<=p.ii
    .go_wp2_with (first|(go_at_call 84;refine(dQ _ _).mono ?_;rintro e n ⟨rfl,rfl⟩))
     go_quiet (fail)
     go_wp2_with fail
     go_ret
     exact iz.bad _ (by decide) (below_drewN m _)
    have VV:decide (x.ii<=p.ii)=false:=decide_eq_false m3;go_wp2_with (first|(go_at_call 84;refine(dQ _ _).mono ?_;rintro e n ⟨rfl,rfl⟩))
    go_quiet (fail)
    go_wp2_with fail
    go_roundw
    case rel=>exact⟨j+1+1,by omega,by simp,dN,below_drewN a _⟩
    case measure=>simp[intOf];omega
  obtain rfl:k=g.gx.length:=by omega
  have hg:P:=HP.mpr ⟨by omega,λx F=>s.all x F⟩;clear c;go_wp2_with fail
  go_ret
  exact iz.O hg mG
abbrev jb:TypeId:=52
abbrev xu:TypeId:=54
abbrev xg:TypeId:=56
abbrev oQ:TypeId:=58
abbrev OB:TypeId:=153
def YX (x:Part):List Value:=[.int .i64 x.z,.int .i64 x.x,.int .i64 x.y]
def MC (l:List Part):List Value:=l.flatMap YX
theorem I2 (S:Bs)(l:List Part)(h:∀x∈l,gN x.z/\gN x.x/\gN x.y):Fl lS 3 v S (MC l) l:=wG v S YX l (λ_ _=>rfl) (λx a=>⟨rfl,h x a⟩)
def XL (x:ml):List Value:=[.int .i64 x.gd,.int .i64 x.ia,.int .i64 x.x,.int .i64 x.y]
def Lm (l:List ml):List Value:=l.flatMap XL
theorem G' (S:Bs)(l:List ml)(h:∀x∈l,gN x.gd/\gN x.ia/\gN x.x/\gN x.y):Fl mc 4 v S (Lm l) l:=wG v S XL l (λ_ _=>rfl) (λx a=>⟨rfl,h x a⟩)
def XY (x:Delta):List Value:=[.int .i64 x.region,.int .i64 x.ii,.int .i64 x.x,.int .i64 x.y]
def LG (l:List Delta):List Value:=l.flatMap XY
theorem Gr (S:Bs)(l:List Delta)(h:∀x∈l,gN x.region/\gN x.ii/\gN x.x/\gN x.y):Fl md 4 v S (LG l) l:=wG v S XY l (λ_ _=>rfl) (λx a=>⟨rfl,h x a⟩)
structure GV (w:World)(m gb:Nat)(kb:Nat)(K:Option (Array Value))(fs:Nat->Value)(lp:Int)(cs:Array Value)(p:List Pt)(A3:Option Addr)(es:List Int)(A4:Option Addr)(pa:List Part)(A5:Option Addr)(c5:Nat)(an:List ml)(A6:Option Addr)(c6:Nat)(de:List Delta)(A7:Option Addr)(c7:Nat)(wr:World):Prop where
 b:Mk wr m fs lp
 var:Bk wr gb jb cs
 h:Sl lr 3 wr (TS [CE,aK] w.heap.size wr) A3 p
 gO:Sl gS 1 wr (TS [CE,aK] w.heap.size wr) A4 es
 R:wr.ownsRow w.heap.size xu 3 (A5 pa.length c5) pa.length (MC pa)
 Q:wr.ownsRow w.heap.size xg 4 (A6 an.length c6) an.length (Lm an)
 P:wr.ownsRow w.heap.size oQ 4 (A7 de.length c7) de.length (LG de)
 j:Mv m w wr
 t:∀c,K=some c->Bk wr kb OB c
section
variable {w:World} {m gb kb:Nat} {K:Option (Array Value)} {fs:Nat->Value} {lp:Int} {cs:Array Value} {p:List Pt} {A3:Option Addr} {es:List Int} {A4:Option Addr} {pa:List Part} {A5:Option Addr} {c5:Nat} {an:List ml} {A6:Option Addr} {c6:Nat} {de:List Delta} {A7:Option Addr} {c7:Nat} {wr w2:World}
theorem GV.next (h:GV w m gb kb K fs lp cs p A3 es A4 pa A5 c5 an A6 c6 de A7 c7 wr){a:Nat->Value}{b:Int}(e:Mk w2 m a b)(d:Mv m wr w2):GV w m gb kb K a b cs p A3 es A4 pa A5 c5 an A6 c6 de A7 c7 w2:=by have s:=Sp.next h.b d;exact⟨e,s.bk h.var (by decide),s.sl lr.ok (by decide) h.h,s.sl gS.ok (by decide) h.gO,s.own h.R (by decide),s.own h.Q (by decide),s.own h.P (by decide),iD h.j d,λc f=>s.bk (h.t c f) (by decide)⟩
theorem GV.below (h:GV w m gb kb K fs lp cs p A3 es A4 pa A5 c5 an A6 c6 de A7 c7 wr)(a:Below wr wr w2):GV w m gb kb K fs lp cs p A3 es A4 pa A5 c5 an A6 c6 de A7 c7 w2:=by have s:Sp m pU wr w2:=Sp.below a;exact⟨h.b.below a,s.bk h.var (by decide),s.sl lr.ok (by decide) h.h,s.sl gS.ok (by decide) h.gO,s.own h.R (by decide),s.own h.Q (by decide),s.own h.P (by decide),lq h.j a,λc b=>s.bk (h.t c b) (by decide)⟩
theorem GV.drew (h:GV w m gb kb K fs lp cs p A3 es A4 pa A5 c5 an A6 c6 de A7 c7 wr):GV w m gb kb K fs lp cs p A3 es A4 pa A5 c5 an A6 c6 de A7 c7 wr.drew:=h.below (gD _ _).drew
theorem GV.put (h:GV w m gb kb K fs lp cs p A3 es A4 pa A5 c5 an A6 c6 de A7 c7 wr)(a:m<w)(b:w.heap.size<=gb)(j:Nat)(u:Value):GV w m gb kb K fs lp (cs.setIfInBounds j u) p A3 es A4 pa A5 c5 an A6 c6 de A7 c7 (wr.setCell (gb,j) u):=by have s:Sp m jb wr (wr.setCell (gb,j) u):=Sp.set h.var (by omega) j u;exact⟨s.mk h.b (by decide),h.var.set j u,s.sl lr.ok (by decide) h.h,s.sl gS.ok (by decide) h.gO,s.own h.R (by decide),s.own h.Q (by decide),s.own h.P (by decide),xY h.j b _ _,λc d=>s.bk (h.t c d) (by decide)⟩
theorem GV.asj (h:GV w m gb kb K fs lp cs p A3 es A4 pa A5 c5 an A6 c6 de A7 c7 wr){b:List Pt}{c:Option Addr}{a:List Int}{d:Option Addr}{i:Nat}(e:w.heap.size<=i)(f:Sl lr 3 wr (TS [CE,aK] i wr) c b)(g:Sl gS 1 wr (TS [CE,aK] i wr) d a):GV w m gb kb K fs lp cs b c a d pa A5 c5 an A6 c6 de A7 c7 wr:=⟨h.b,h.var,f.ts lr.ok (λt h=>h) e,g.ts gS.ok (λt h=>h) e,h.R,h.Q,h.P,h.j,h.t⟩
theorem GV.vd (h:GV w m gb kb K fs lp cs p A3 es A4 pa A5 c5 an A6 c6 de A7 c7 wr){a:Nat}{c:Array Value}(d:Bk wr a OB c):GV w m gb a (some c) fs lp cs p A3 es A4 pa A5 c5 an A6 c6 de A7 c7 wr:=⟨h.b,h.var,h.h,h.gO,h.R,h.Q,h.P,h.j,λe b=>by injection b with b;rw[<-b];exact d⟩
theorem GV.box (h:GV w m gb kb K fs lp cs p A3 es A4 pa A5 c5 an A6 c6 de A7 c7 wr)(f:m<w){a:Nat}{c:Array Value}(g:Bk wr a oQ c)(b:∀x,(Value.slice A7 de.length c7).ownBlock=some x->x<a)(d:w.heap.size<=a)(j:Nat)(u:Value):GV w m gb kb K fs lp cs p A3 es A4 pa A5 c5 an A6 c6 de A7 c7 (wr.setCell (a,j) u):=by
 have s:Sp m oQ wr (wr.setCell (a,j) u):=Sp.set g (by omega) j u;have i:wr.grownBy (wr.setCell (a,j) u) (some a):=aX (World.grownBy.refl _ _) (.inl rfl) u;exact⟨s.mk h.b (by decide),s.bk h.var (by decide),s.sl lr.ok (by decide) h.h,s.sl gS.ok (by decide) h.gO,s.own h.R (by decide),s.own h.Q (by decide),h.P.kept i (by
  cases k:(Value.slice A7 de.length c7).ownBlock with
  |none=>exact .inl rfl
  |some x=>exact .inr (λe=>by injection e with e;have:=b x k;omega)),xY h.j d _ _,λc l=>s.bk (h.t c l) (by decide)⟩
theorem GV.arj (h:GV w m gb kb K fs lp cs p A3 es A4 pa A5 c5 an A6 c6 de A7 c7 wr)(j:m<w)(r:w.heap.size<=gb){n:Nat}(l:pa.length=n)(o:cs[5]?=some (A5 n c5))(v:n<=1000)(b e f:Int):
  ∃B d a,(Builtin.append_ #[47,47] 47 #[A5 n c5,.slice (wr,0) 1 1]).run Tryz.prog (wr.alloc (.cells #[b,e,f] xu))=.ok (.slice B (n+1) d) a/\
   a.cell? (gb,5)=some (A5 n c5)/\a.frozen? (gb,5)=false/\gb<a.heap.size/\(∀c,K=some c->Bk a kb OB c)/\GV w m gb kb K fs lp (cs.setIfInBounds 5 (.slice B (n+1) d)) p A3 es A4 (pa++[⟨b,e,f⟩]) B d an A6 c6 de A7 c7 (a.setCell (gb,5) (.slice B (n+1) d)):=by
 subst l;obtain⟨B,d,a,g,t,q,x⟩:=dJ LU 47 wr w.heap.size _ c5 A5 _ #[b,e,f] rfl h.R (by simp[Value.oneCell']) (by omega) h.j.size;have s:Sp m xu wr a:=Sp.push h.R (by omega) q;have i:=s.bk h.var (by decide);have l:(pa++[(⟨b,e,f⟩:Part)]).length=pa.length+1:=by simp
 have u:a.ownsRow w.heap.size xu 3 (.slice B (pa++[(⟨b,e,f⟩:Part)]).length d) (pa++[(⟨b,e,f⟩:Part)]).length (MC (pa++[(⟨b,e,f⟩:Part)])):=by rw[l];simpa [MC,YX]using t
 have k:GV w m gb kb K fs lp cs p A3 es A4 (pa++[(⟨b,e,f⟩:Part)]) B d an A6 c6 de A7 c7 a:=⟨s.mk h.b (by decide),i,s.sl lr.ok (by decide) h.h,s.sl gS.ok (by decide) h.gO,u,s.own h.Q (by decide),s.own h.P (by decide),lW h.j h.R (ae _) q,λc o=>s.bk (h.t c o) (by decide)⟩
 exact⟨B,d,a,g,by rw[i.cell,o],i.frozen 5,i.lt,k.t,k.put j r 5 _⟩
theorem GV.ari (h:GV w m gb kb K fs lp cs p A3 es A4 pa A5 c5 an A6 c6 de A7 c7 wr)(l:m<w)(t:w.heap.size<=gb){n:Nat}(o:an.length=n)(q:cs[6]?=some (A6 n c6))(x:n<=1000)(b e f g:Int):
  ∃B d a,(Builtin.append_ #[48,48] 48 #[A6 n c6,.slice (wr,0) 1 1]).run Tryz.prog (wr.alloc (.cells #[b,e,f,g] xg))=.ok (.slice B (n+1) d) a/\
   a.cell? (gb,6)=some (A6 n c6)/\a.frozen? (gb,6)=false/\gb<a.heap.size/\(∀c,K=some c->Bk a kb OB c)/\GV w m gb kb K fs lp (cs.setIfInBounds 6 (.slice B (n+1) d)) p A3 es A4 pa A5 c5 (an++[⟨b,e,f,g⟩]) B d de A7 c7 (a.setCell (gb,6) (.slice B (n+1) d)):=by
 subst o;obtain⟨B,d,a,i,u,r,y⟩:=dJ LH 48 wr w.heap.size _ c6 A6 _ #[b,e,f,g] rfl h.Q (by simp[Value.oneCell']) (by omega) h.j.size;have s:Sp m xg wr a:=Sp.push h.Q (by omega) r;have j:=s.bk h.var (by decide);have o:(an++[(⟨b,e,f,g⟩:ml)]).length=an.length+1:=by simp
 have v:a.ownsRow w.heap.size xg 4 (.slice B (an++[(⟨b,e,f,g⟩:ml)]).length d) (an++[(⟨b,e,f,g⟩:ml)]).length (Lm (an++[(⟨b,e,f,g⟩:ml)])):=by rw[o];simpa [Lm,XL]using u
 have k:GV w m gb kb K fs lp cs p A3 es A4 pa A5 c5 (an++[(⟨b,e,f,g⟩:ml)]) B d de A7 c7 a:=⟨s.mk h.b (by decide),j,s.sl lr.ok (by decide) h.h,s.sl gS.ok (by decide) h.gO,s.own h.R (by decide),v,s.own h.P (by decide),lW h.j h.Q (ae _) r,λc q=>s.bk (h.t c q) (by decide)⟩
 exact⟨B,d,a,i,by rw[j.cell,q],j.frozen 6,j.lt,k.t,k.put l t 6 _⟩
theorem GV.BB (h:GV w m gb kb K fs lp cs p A3 es A4 pa A5 c5 an A6 c6 de A7 c7 wr)(l:m<w)(t:w.heap.size<=gb){n:Nat}(o:de.length=n)(q:cs[7]?=some (A7 n c7))(x:n<=1000)(b e f g:Int):
  ∃B d a,(Builtin.append_ #[49,49] 49 #[A7 n c7,.slice (wr,0) 1 1]).run Tryz.prog (wr.alloc (.cells #[b,e,f,g] oQ))=.ok (.slice B (n+1) d) a/\
   a.cell? (gb,7)=some (A7 n c7)/\a.frozen? (gb,7)=false/\gb<a.heap.size/\(∀c,K=some c->Bk a kb OB c)/\GV w m gb kb K fs lp (cs.setIfInBounds 7 (.slice B (n+1) d)) p A3 es A4 pa A5 c5 an A6 c6 (de++[⟨b,e,f,g⟩]) B d (a.setCell (gb,7) (.slice B (n+1) d)):=by
 subst o;obtain⟨B,d,a,i,u,r,y⟩:=dJ Hl 49 wr w.heap.size _ c7 A7 _ #[b,e,f,g] rfl h.P (by simp[Value.oneCell']) (by omega) h.j.size;have s:Sp m oQ wr a:=Sp.push h.P (by omega) r;have j:=s.bk h.var (by decide);have o:(de++[(⟨b,e,f,g⟩:Delta)]).length=de.length+1:=by simp
 have v:a.ownsRow w.heap.size oQ 4 (.slice B (de++[(⟨b,e,f,g⟩:Delta)]).length d) (de++[(⟨b,e,f,g⟩:Delta)]).length (LG (de++[(⟨b,e,f,g⟩:Delta)])):=by rw[o];simpa [LG,XY]using u
 have k:GV w m gb kb K fs lp cs p A3 es A4 pa A5 c5 an A6 c6 (de++[(⟨b,e,f,g⟩:Delta)]) B d a:=⟨s.mk h.b (by decide),j,s.sl lr.ok (by decide) h.h,s.sl gS.ok (by decide) h.gO,s.own h.R (by decide),s.own h.Q (by decide),v,lW h.j h.P (ae _) r,λc q=>s.bk (h.t c q) (by decide)⟩
 exact⟨B,d,a,i,by rw[j.cell,q],j.frozen 7,j.lt,k.t,k.put l t 7 _⟩
end
theorem rr.make {n:Nat}{l:Int}{o:Bool}{k:Nat}{p:List Pt}{es:List Int}{pa:List Part}{an:List ml}{de:List Delta}{hi:List Ins}(h:n<10)(i:N9 l)(b:pP k p es)(j:k<=2)(c:(∀x∈pa,In 2 x.z/\N9 x.x/\N9 x.y)/\pa.length<=1)
  (e:(∀a∈an,1<=a.gd/\a.gd<=4/\N9 a.ia/\N9 a.x/\N9 a.y)/\an.length<=5) (f:(∀d∈de,N9 d.region/\N9 d.ii/\N9 d.x/\N9 d.y)/\de.length<=40) (g:nI hi/\hi.length<=60):rr n ⟨nX n,l,o,p,es,pa,an,de,hi⟩:=
 ⟨rfl,{gn:=Tp ⟨n,h⟩,oo:=i,h:=b.h,gO:=b.gO,gi:=c.1,M:=e.1,o:=f.1,gR:=g.1},{h:=by have:=b.i;show p.length<=12;omega,gO:=by have:=b.i;show es.length<=2;omega,gi:=c.2,M:=e.2,o:=f.2,gR:=g.2}⟩
