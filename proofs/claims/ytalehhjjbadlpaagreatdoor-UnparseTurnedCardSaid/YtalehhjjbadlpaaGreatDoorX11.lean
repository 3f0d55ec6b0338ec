/- Lemmas. -/
import Derived.Test.YtalehhjjbadlpaaGreatDoorX07
import Derived.Test.YtalehhjjbadlpaaGreatDoorX09
set_option linter.all false
set_option maxRecDepth 100000
set_option maxHeartbeats 32000000
namespace Go.Proofs.YtalehhjjbadlpaaGreatDoor
open Go.RowKit
variable{x:World}(W:World){G j q b:Nat}{a:Array Value}{D:List Value}{A:Option Addr}{v:List hU}{f:Rows}{e:List Ins}{P:Program}{α:Type}{g:hU}{u:PS}
def nk (rv:Rows):Rows:=λj=>if 8<=j/\j<=13 then RV.nil else rv j
theorem ww (rv:Rows)(h:8<=j/\j<=13):nk rv j=RV.nil:=by rw[nk,if_pos h]
theorem tV (rv:Rows)(h:¬(8<=j/\j<=13)):nk rv j=rv j:=by rw[nk,if_neg h]
theorem Live.nk (h:Live x G f):Live x G (nk f):=by
 refine⟨λj i=> ?_,λa b k l Bd g=> ?_⟩
 .by_cases c:8<=j/\j<=13
  .rw[ww _ c];exact World.ownsRow_nil x G _ _
  rw[tV _ c];exact h.own j i
 by_cases c:8<=a/\a<=13
 .rw[ww _ c];intro e;cases e
 rw[tV _ c];by_cases d:8<=b/\b<=13
 .rw[ww _ d];intro _ e;cases e
 rw[tV _ d];exact h.apart a b k l Bd g
theorem Tr.nk (rv:Rows):Tr W rv W (nk rv):=
 ⟨Same.refl _ _,λb ⟨c,t,d,f,g⟩=>⟨c,t,d,f,λj h=>by
  by_cases a:8<=j/\j<=13
  .rw[ww _ a];intro e;cases e
  rw[tV _ a];exact g j h⟩⟩
theorem Live.fz6 (h:Live x G f)(hi:8<=j/\j<=13):∀g,(f j).v.ownBlock=some g->Fz x (Proofs.YtalehhjjbadlpaaGreatDoor.nk f) g:=by
 intro g c;obtain⟨a,d⟩:=dY (h.own j (by omega)) c;refine⟨a,kT j,d,yN j,λBd i=> ?_⟩;by_cases b:8<=Bd/\Bd<=13
 .rw[ww _ b];intro e;cases e
 rw[tV _ b];exact h.apart j Bd (by omega) i (λe=>b (e ▸ hi)) g c
theorem Live.pQ {R:Rel α}(Bd:R.Ok)(h:Live x G f){i:Nat}(hi:8<=i/\i<=13){k:Nat}(e:kS i=k){l:List α}(a:ld R k x (Fz x f) (f i) l):∃A c,(f i).v=.slice A l.length c/\Sl R k x (Fz x (Proofs.YtalehhjjbadlpaaGreatDoor.nk f)) A l:=by have b:=h.own i (by omega);obtain⟨A,c,d⟩:=mP b;rw[e,d,a.1]at b;refine⟨A,c,by rw[d,a.1],Sl.pk b ((Tr.nk x f).V Bd a.2) (λg j=>h.fz6 hi g ?_) (by rw[<-e];exact yr i)⟩;rw[d,a.1];exact j
section
variable {w w2:World} {Bd p gm cm:Nat} {gl:Gl} {s:PS} {rv:Rows} {K:Nat}
theorem pN.told {T:List hU}(a:Live w Bd rv)(h:pN w (Fz w rv) (rv 0) (rv 8) (rv 9) (rv 10) (rv 11) (rv 12) (rv 13) T):Fl iA 9 w (Fz w (Proofs.YtalehhjjbadlpaaGreatDoor.nk rv)) (rv 0).xs T:=by
 rcases h.2 with⟨rfl,e⟩|⟨c,g,Q,rfl,d,f,j,k,l,m,n,o,b⟩
 .rw[e];exact Fl.nil
 rw[d];obtain⟨q,c3,r,t⟩:=a.pQ lr.ok (i:=8) (by decide) rfl k;obtain⟨u,v,x,y⟩:=a.pQ gS.ok (i:=9) (by decide) rfl l;obtain⟨z,A,B,C⟩:=a.pQ lS.ok (i:=10) (by decide) rfl m;obtain⟨D,E,F,G⟩:=a.pQ mc.ok (i:=11) (by decide) rfl n;obtain⟨H,I,S,L⟩:=a.pQ md.ok (i:=12) (by decide) rfl o;obtain⟨M,N,O,P⟩:=a.pQ ky.ok (i:=13) (by decide) rfl b;rw[r,x,B,F,S,O];exact((Tr.nk w rv).V iA.ok j).snoc (R:=iA) ⟨q,c3,u,v,z,A,D,E,H,I,M,N,rfl,f,t,y,C,G,L,P⟩ rfl
theorem ie.Bt (h:ie w Bd p gm cm gl s rv K){c:Value}{nm:B}{oo:Int}{mk:Bool}(u:w.grownBy w2 (rv 0).v.ownBlock)
  (D:w2.ownsRow Bd (kT 0) (kS 0) c ((rv 0).n+1) ((rv 0).xs++[.string nm,.int .i64 oo,.bool mk,.slice none 0 0,.slice none 0 0,.slice none 0 0,.slice none 0 0,.slice none 0 0,.slice none 0 0])) (E:Loc w (rv 0).v c) (F:gN oo) {K':Nat} (x:K+1<=K'):
  ∃ad,ie (w2.setCell (p,1) c) Bd p gm cm gl {s with f:= {s.f with ga:=s.f.ga++[⟨nm,oo,mk,[],[],[],[],[],[]⟩]}} ad K'/\KQ cm w (w2.setCell (p,1) c):=by
 obtain⟨y,k,z,G,H⟩:=h.row (i:=0) (by decide) (r:=⟨c,(rv 0).n+1,_⟩) u D E;generalize b:(⟨c,(rv 0).n+1,(rv 0).xs++[.string nm,.int .i64 oo,.bool mk,.slice none 0 0,.slice none 0 0,.slice none 0 0,.slice none 0 0,.slice none 0 0,.slice none 0 0]⟩:RV)=a at*
 have o:=z.trans (Tr.nk w2 (iK rv 0 a));have d:=h.D.tr o;have q:pN w2 (Fz w2 (iK rv 0 a)) (rv 0) ((iK rv 0 a) 8) ((iK rv 0 a) 9) ((iK rv 0 a) 10) ((iK rv 0 a) 11) ((iK rv 0 a) 12) ((iK rv 0 a) 13) s.f.ga:=h.D.p.tr z;have l:Fl iA 9 w2 (Fz w2 (Proofs.YtalehhjjbadlpaaGreatDoor.nk (iK rv 0 a))) (rv 0).xs s.f.ga:=by
  rcases q.2 with⟨I,e⟩|⟨A,g,ci,aa,L,M,N,O,P,Q,S,T,t⟩
  .rw[I,e];exact Fl.nil
  rw[aa,L];obtain⟨U,c3,V,W⟩:=k.pQ lr.ok (i:=8) (by decide) rfl O;obtain⟨X,Y,Z,s4⟩:=k.pQ gS.ok (i:=9) (by decide) rfl P;obtain⟨A5,c5,v5,s5⟩:=k.pQ lS.ok (i:=10) (by decide) rfl Q;obtain⟨A6,c6,v6,s6⟩:=k.pQ mc.ok (i:=11) (by decide) rfl S;obtain⟨A7,c7,v7,s7⟩:=k.pQ md.ok (i:=12) (by decide) rfl T;obtain⟨A8,c8,v8,s8⟩:=k.pQ ky.ok (i:=13) (by decide) rfl t;rw[V,Z,v5,v6,v7,v8];exact((Tr.nk w2 (iK rv 0 a)).V iA.ok N).snoc (R:=iA) ⟨U,c3,X,Y,A5,c5,A6,c6,A7,c7,A8,c8,rfl,M,W,s4,s5,s6,s7,s8⟩ rfl
 have f7:FD w2 (Fz w2 (Proofs.YtalehhjjbadlpaaGreatDoor.nk (iK rv 0 a))) (Proofs.YtalehhjjbadlpaaGreatDoor.nk (iK rv 0 a)) {s.f with ga:=s.f.ga++[⟨nm,oo,mk,[],[],[],[],[],[]⟩]} :=by
  refine⟨d.gt,?_,d.Y,d.u,d.G,d.E,d.H,d.F,d.gP⟩;have k0:(Proofs.YtalehhjjbadlpaaGreatDoor.nk (iK rv 0 a)) 0=a:=rfl;rw[k0];refine⟨?_,.inr ⟨s.f.ga,⟨nm,oo,mk,[],[],[],[],[],[]⟩,(rv 0).xs,rfl,?_,F,l,ld.nil _ _ _ _,ld.nil _ _ _ _,ld.nil _ _ _ _,ld.nil _ _ _ _,ld.nil _ _ _ _,ld.nil _ _ _ _⟩⟩
  .rw[<-b];show(rv 0).n+1=_;rw[h.D.p.1];simp
  rw[<-b];rfl
 have m:∀j,j<15->(Proofs.YtalehhjjbadlpaaGreatDoor.nk (iK rv 0 a) j).n<=K':=by
  intro j hj;by_cases C:8<=j/\j<=13
  .rw[ww _ C];exact nz _
  rw[tV _ C];refine tY h.i (nt (pH _ _) x) ?_ j hj;rw[<-b];exact nt (rh (h.i 0 (by decide)) 1) x
 obtain⟨ff,q1,q2⟩:=H;refine⟨Proofs.YtalehhjjbadlpaaGreatDoor.nk (iK rv 0 a),ie.tO (cs:=eQ s rv gm cm) (s':= {s with f:= {s.f with ga:=s.f.ga++[⟨nm,oo,mk,[],[],[],[],[],[]⟩]}}) y k.nk f7 G h.m (pC.tr ⟨ff,q1,q2⟩ (Tr.nk w2 (iK rv 0 a)) rfl) m h.low 1 c ?_,(KQ.live h.live (by decide) u).trans (KQ.par y 1 c)⟩;rw[<-b];rfl
theorem ie.Bw (h:ie w Bd p gm cm gl s rv K){L:List gH}{l:gH}(i:s.f.ge=L++[l]):
  ∃G M c,(rv 2).v=.slice (some ⟨G,0,none⟩) (L.length+1) M/\(rv 2).xs=c++[.int .i64 l.gd,.bool l.nj,(rv 14).v]/\c.length=L.length*3/\G<w/\
   (∀j,j<3->w.cell? ⟨G,L.length*3+j,none⟩=[Value.int .i64 l.gd,.bool l.nj,(rv 14).v][j]?)/\(∀j,w.frozen? ⟨G,j,none⟩=false)/\(∃a,Bk w G 65 a):=by
 have x:=h.D.u.1;have y:=h.live.own 2 (by decide);rcases h.D.u.2 with⟨e,_⟩|⟨k,z,c,d,t,D,A,-⟩
 .rw[i]at e;simp at e
 rw[i]at d;obtain⟨rfl,d⟩:=List.append_inj' d rfl;obtain rfl:l=z:=by simpa using d
 have m:=A.1;have b:(rv 2).n=L.length+1:=by rw[x,i];simp
 rcases y.2 with⟨_,E⟩|⟨G,o,a,u,F,g,B,H,C,q⟩
 .omega
 rw[b]at u;refine⟨G,o,c,u,t,m,(mq.1 g).1,λj I=> ?_,λj=>Bk.frozen g j,⟨a,g⟩⟩;rw[Bk.cell g];have r:L.length*3+j<(rv 2).n*kS 2:=by rw[b];show _<(L.length+1)*3;omega
 have:(a.toList.take ((rv 2).n*kS 2))[L.length*3+j]?=a.toList[L.length*3+j]? :=by rw[pY,if_pos r]
 rw[<-Array.getElem?_toList,<-this,q,t,ri (by rw[m];omega),m,Nat.add_sub_cancel_left]
theorem ie.BA (h:ie w Bd p gm cm gl s rv K){d:Value}{kd:Int}{ig:Bool}(q:w.grownBy w2 (rv 2).v.ownBlock)
  (G:w2.ownsRow Bd (kT 2) (kS 2) d ((rv 2).n+1) ((rv 2).xs++[.int .i64 kd,.bool ig,.slice none 0 0])) (H:Loc w (rv 2).v d) (I:gN kd) {K':Nat} (C:K+1<=K'):
  ∃Z,ie (w2.setCell (p,3) d) Bd p gm cm gl {s with f:= {s.f with ge:=s.f.ge++[⟨kd,ig,[]⟩]}} Z K'/\KQ cm w (w2.setCell (p,3) d):=by
 obtain⟨D,u,E,Y,L⟩:=h.row (i:=2) (by decide) (r:=⟨d,(rv 2).n+1,_⟩) q G H;generalize b:(⟨d,(rv 2).n+1,(rv 2).xs++[.int .i64 kd,.bool ig,.slice none 0 0]⟩:RV)=a at*
 have x:=E.trans (Tr.drop w2 (iK rv 2 a) 14);have k:=h.D.tr x;have y:tM w2 (Fz w2 (iK rv 2 a)) (rv 2) ((iK rv 2 a) 14) s.f.ge:=h.D.u.tr E;have m:Fl jn 3 w2 (Fz w2 (iK (iK rv 2 a) 14 RV.nil)) (rv 2).xs s.f.ge:=by
  rcases y.2 with⟨M,e⟩|⟨F,l,X,N,O,P,Q,t⟩
  .rw[M,e];exact Fl.nil
  rw[N,O];have z:=u.own 14 (by decide);obtain⟨A,c,B⟩:=mP z;rw[B,t.1]at z;rw[B,t.1];refine((Tr.drop w2 (iK rv 2 a) 14).V jn.ok Q).snoc (R:=jn) ⟨A,c,rfl,P,Sl.pk z ((Tr.drop w2 (iK rv 2 a) 14).V lj.ok t.2) (λg q=>u.X3 (i:=14) (by decide) g ?_) (by decide)⟩ rfl;rw[B,t.1];exact q
 have S:FD w2 (Fz w2 (iK (iK rv 2 a) 14 RV.nil)) (iK (iK rv 2 a) 14 RV.nil) {s.f with ge:=s.f.ge++[⟨kd,ig,[]⟩]} :=by
  refine⟨k.gt,k.p,k.Y,?_,k.G,k.E,k.H,k.F,k.gP⟩;have T:(iK (iK rv 2 a) 14 RV.nil) 2=a:=rfl;rw[T];refine⟨?_,.inr ⟨s.f.ge,⟨kd,ig,[]⟩,(rv 2).xs,rfl,?_,I,m,ld.nil _ _ _ _⟩⟩
  .rw[<-b];show(rv 2).n+1=_;rw[h.D.u.1];simp
  rw[<-b];rfl
 have o:∀j,j<15->(iK (iK rv 2 a) 14 RV.nil j).n<=K':=by refine tY (tY h.i (nt (pH _ _) C) ?_) (ae _) (nz _);rw[<-b];exact nt (rh (h.i 2 (by decide)) 1) C
 obtain⟨U,V,W⟩:=L;refine⟨iK (iK rv 2 a) 14 RV.nil,ie.tO (cs:=eQ s rv gm cm) (s':= {s with f:= {s.f with ge:=s.f.ge++[⟨kd,ig,[]⟩]}}) D (u.drop 14) S Y h.m (pC.tr ⟨U,V,W⟩ (Tr.drop w2 (iK rv 2 a) 14) rfl) o h.low 3 d ?_,(KQ.live h.live (by decide) q).trans (KQ.par D 3 d)⟩;rw[<-b];rfl
theorem ie.By (h:ie w Bd p gm cm gl s rv K){ad:List gH}{l:gH}(D:s.f.ge=ad++[l]){G N c0:Nat}(k:(rv 2).v=.slice (G,0) N c0){a:Value}{cs:List Value}{y:k'}(B:w.grownBy w2 (rv 14).v.ownBlock)(W:w2.ownsRow Bd (kT 14) (kS 14) a ((rv 14).n+1) ((rv 14).xs++cs))(O:Loc w (rv 14).v a)
  (X:Fl lj 6 w (Fz w rv) cs [y]) {K':Nat} (E:K+1<=K'):
  ∃ak,ie (w2.setCell (G,ad.length*3+2) a) Bd p gm cm gl {s with f:= {s.f with ge:=ad++[{l with gC:=l.gC++[y]}]}} ak K'/\KQ cm w (w2.setCell (G,ad.length*3+2) a)/\Below Bd w (w2.setCell (G,ad.length*3+2) a):=by
 have C:Tr w rv w2 (iK rv 14 ⟨a,(rv 14).n+1,(rv 14).xs++cs⟩):=Tr.row (by decide) B O;obtain⟨Y,F,-,P,Z⟩:=h.row (i:=14) (by decide) (r:=⟨a,(rv 14).n+1,(rv 14).xs++cs⟩) B W O;have Q:(iK rv 14 ⟨a,(rv 14).n+1,(rv 14).xs++cs⟩) 2=rv 2:=rfl;have m:=F.own 2 (by decide);rw[Q,k]at m;have t:N=(rv 2).n:=by obtain⟨A9,c9,e⟩:=mP (h.live.own 2 (by decide));rw[k]at e;simp only[oa]at e;exact e.2.1
 have u:=W9 (t ▸ m) (ad.length*3+2) a;rw[t]at k;have o:(Value.slice (G,0) (rv 2).n c0).ownBlock=some G:=rfl;have q:w2.grownBy (w2.setCell (G,ad.length*3+2) a) ((iK rv 14 ⟨a,(rv 14).n+1,(rv 14).xs++cs⟩) 2).v.ownBlock:=by rw[Q,k,o];exact fZ w2 ⟨G,_,none⟩ a
 rw[<-k]at u;have x:Loc w2 ((iK rv 14 ⟨a,(rv 14).n+1,(rv 14).xs++cs⟩) 2).v (rv 2).v:= .inl rfl;have b2:=F.row (i:=2) (by decide) (r:=⟨(rv 2).v,(rv 2).n,(rv 2).xs.set (ad.length*3+2) a⟩) q u x;have d:Tr w2 (iK rv 14 ⟨a,(rv 14).n+1,(rv 14).xs++cs⟩) (w2.setCell (G,ad.length*3+2) a) (iK (iK rv 14 ⟨a,(rv 14).n+1,(rv 14).xs++cs⟩) 2 ⟨(rv 2).v,(rv 2).n,(rv 2).xs.set (ad.length*3+2) a⟩):=Tr.row (by decide) q x;have j:=(h.D.tr C).Ck d;have H:G≠p:=λe=>by
  obtain⟨I,aa⟩:=dY (h.live.own 2 (by decide)) (g:=G) (by rw[k];rfl);subst e;have:=(dw aa h.par).1
  revert this
  decide
 have z:∀b R c,w2.heap[b]?=some (Obj.map R c)->b≠G:=λb R c aa e=>by
  subst e;obtain⟨I,L⟩:=dY m (g:=b) rfl;unfold Bk at L;rw[aa]at L;cases L
 obtain⟨A,c1,m1⟩:=P.isMap;obtain⟨ff,S,q2⟩:=Z;obtain⟨T,c2,m2⟩:=S.isMap;refine⟨iK (iK rv 14 ⟨a,(rv 14).n+1,(rv 14).xs++cs⟩) 2 ⟨(rv 2).v,(rv 2).n,(rv 2).xs.set (ad.length*3+2) a⟩,?_,?_,?_⟩
 .refine {par:= ?_,live:=b2,D:=⟨j.gt,j.p,j.Y,?_,j.G,j.E,j.H,j.F,j.gP⟩,r:=P.keep (Below.heap_setCell _ _ _ _ (z _ _ _ m1)),m:=h.m,ia:=pC.tr ⟨ff,S,q2⟩ d (Below.heap_setCell _ _ _ _ (z _ _ _ m2)),i:=tY (tY h.i (nt (pH _ _) E) (nt (rh (h.i 14 (by decide)) 1) E)) (ae _) (nt (h.i 2 (by decide)) (nt (pH _ _) E)),low:=h.low}
  .exact Bk.I Y (λe=>H e.symm) _
  obtain⟨g1,g2⟩:=h.D.u;refine⟨by show(rv 2).n=_;rw[g1,D];simp,.inr ?_⟩;rcases g2 with⟨e,_⟩|⟨M,l',U,A,T,h3,V,h5⟩
  .rw[D]at e;simp at e
  rw[D]at A;obtain⟨rfl,A⟩:=List.append_inj' A rfl;obtain rfl:l=l':=by simpa using A
  refine⟨ad,_,U,rfl,?_,h3,d.V jn.ok (C.V jn.ok V),((h5.tr lj.ok C).app rfl rfl (C.V lj.ok X)).tr lj.ok d⟩;show(rv 2).xs.set (ad.length*3+2) a=_;rw[T,tu U _ 2 _ _ V.1];rfl
 .exact(KQ.live h.live (i:=14) (by decide) B).trans (KQ.live F (i:=2) (by decide) q)
 refine((gD Bd w).grown B h.size (λg e=>((h.live.own 14 (by decide)).lt g e).1)).setCell ?_ _;exact((h.live.own 2 (by decide)).lt G (by rw[k];rfl)).1
end
section
attribute [-go_sem] Builtin.append_
theorem yc (s:PS)(h:hU->hU)(a:s.f.ga=v++[g]):vG s h={s with f:= {s.f with ga:=v++[h g]}} :=by unfold vG;rw[a];simp
theorem AO (a:u.f.ga=v++[g]):u.f.ga≠[]:=by rw[a];simp
theorem yq (S:Bs)(l:List Ins)(h:∀x∈l,gN x.op/\gN x.a):Fl ky 2 W S (sS l) l:=by
 induction l with
 |nil=>exact Fl.nil
 |cons x r b=>exact(Fl.one (R:=ky) (cs:=[.int .i64 x.op,.int .i64 x.a]) ⟨rfl,(h x (by simp)).1,(h x (by simp)).2⟩ rfl).append (b (λy c=>h y (by simp[c])))
theorem MT (t:B):gN (vI t):=by
 unfold vI;split
 .have:=List.findIdx_le_length (p:=(· ==t)) (xs:=opNames);rw[Cc]at this;exact⟨by omega,by omega⟩
 exact⟨by decide,by decide⟩
theorem Xv (l:List B):∀x∈l.map lD,gN x.op/\gN x.a:=by
 intro x b;rw[mN]at b;obtain⟨t,_,rfl⟩:=b;refine⟨MT _,?_⟩;have:(lD t).a=if t.contains 58 then aI (dZ 58 t)else 0:=rfl
 rw[this];split
 .exact dU _
 exact⟨by decide,by decide⟩
theorem Ts (S:Bs)(l:List Pt)(h:∀x∈l,gN x.x/\gN x.y):Fl lr 3 W S (Gg l) l:=by
 induction l with
 |nil=>exact Fl.nil
 |cons x r a=>exact(Fl.one (R:=lr) (cs:=[.int .i64 x.x,.int .i64 x.y,.bool x.on]) ⟨rfl,(h x (by simp)).1,(h x (by simp)).2⟩ rfl).append (a (λy b=>h y (by simp[b])))
theorem N3 (l:List B):∀x∈l.map uo,gN x.x/\gN x.y:=by intro x a;rw[mN]at a;obtain⟨t,_,rfl⟩:=a;exact⟨dU _,dU _⟩
theorem Td (l:List Ins):∀u∈sS l,u.oneCell'=true:=by intro u a;simp only[sS,rz,lx,qp,or_false]at a;obtain⟨x,_,rfl|rfl⟩:=a<;>rfl
theorem M7 (l:List Pt):∀u∈Gg l,u.oneCell'=true:=by intro u a;simp only[Gg,rz,lx,qp,or_false]at a;obtain⟨x,_,rfl|rfl|rfl⟩:=a<;>rfl
theorem ie.fresh {y:World}{p:Nat}{C:Gl}(h:ie x G p j q C u f b){t e w n c:Nat}(z:y.ownsRow t e w (A n c) n D)(o:x.heap.size<=t)(i:nM e=true):∀g,(Value.slice A n c).ownBlock=some g->Fz y f g:=by intro g d;obtain⟨a,k⟩:=dY z d;refine⟨a,e,k,i,λs l m=> ?_⟩;have v:=((h.live.own s l).lt g m).2;have r:=(z.lt g d).1;omega
theorem JN (a:Gl)(s:PS)(l:List B)(h:l.length≠3):wY a s l=.error 22:=by
 unfold wY;split
 .rfl
 split
 .simp at h
 rfl
theorem Vq (Bd p gm cm:Nat)(gl:Gl)(s:PS)(rv:Rows)(K:Nat)(A:Option Addr)(n c:Nat)(ws:List P3)(t:B)(l:List B)(L:ie W Bd p gm cm gl s rv K)(hL:lR W A n ws)(hT:af ws=t::l)(hK:K<=10000000000)(hs:s.f.ga=v++[g])(h0:(rv 0).v=.slice (G,0) j b)(hq:q=v.length*9):
  Calls Tryz.prog 52 #[.pointer (p,0),A n c,.pointer (G,q)] W (iS W Bd p gm cm gl (K+n) (wY gl s l)):=by
 have hn:n=l.length+1:=by rw[<-hL.length];exact dR hT
 have hB:=L.size;by_cases h1:l.length=3
 .obtain⟨w,y,z,rfl⟩:∃w y z,l=[w,y,z]:=by
   match l,h1 with
   |[a1,a2,a3],_=>exact⟨a1,a2,a3,rfl⟩
  obtain⟨n0,o,rfl,hb,q1,ar⟩:=hL.word (k:=1) (t:=w) (by rw[hT];rfl) (d:=3) rfl;obtain⟨b',o',e',-,q2,ab⟩:=hL.word (k:=2) (t:=y) (by rw[hT];rfl) (d:=6) rfl;obtain⟨rfl,rfl⟩:n0=b'/\o=o':=by simpa using e'
  clear e';obtain⟨b',o',e',-,q3,ac⟩:=hL.word (k:=3) (t:=z) (by rw[hT];rfl) (d:=9) rfl;obtain⟨rfl,rfl⟩:n0=b'/\o=o':=by simpa using e'
  clear e';simp only[aV,ln]at hn;subst hn;have HP:=J L;obtain⟨F,av,ci,gv,-,-,aw,lH,Ez,xK⟩:=L.sr hs;obtain⟨rfl,aD,rfl⟩:F=G/\v.length+1=j/\av=b:=by rw[gv]at h0;simpa using h0
  have O:F<W.heap.size:=aw;obtain⟨A0,c0,hv⟩:=L.slice (i:=10) (by decide);have kp:W.cell? (F,q+5)=some (rv 10).v:=by rw[hq];exact lH 5 (by decide)
  rw[hv]at kp;have fp:=Ez (q+5);have a9:=L.i 10 (by decide);have HR:Hid (wY gl s [w,y,z]=fin (aP (aP (kV gl 0 w) y) z) {s with f:= {s.f with ga:=v++[{g with gi:=g.gi++[⟨gX gl w,aI y,aI z⟩]}]}}):=by show _=_;unfold wY;rw[if_neg (AO hs)];simp only;rw[yc s _ hs]
  have Hs:=J hs;have Hq:=J hq;have H0:=J h0;have yj:=J xK;have tK:=J (λW rb er h hm=>Dn W rb p gm gl er w h hm);have aE:=J (Il L.m w);have uC:=J (λW rb er h=>eG W rb p er y h ab);have aL:=J (dU y);have Ef:=J (λW rb er h=>eG W rb p er z h ac);have aM:=J (dU z);generalize gX gl w=C at*
  generalize aI y=H at*
  generalize aI z=M at*
  clear L hL hT h1 ar ab ac hs hq h0 gv lH Ez xK aD;go_enter Tryz.func52,Tryz.ntmps52
  go_wp2_with fail
  refine(iE W p).mono ?_;rintro e a ⟨rfl,P,bB⟩;obtain⟨ad,aQ⟩:=aj bB;have TV:a.cell? (n0,o+3+2)=some (.string ⟨w.toArray⟩):=(ad _ _ hb).trans q1;have bb:=P.lt;have aR:=bB.size;have bc:n0<a.heap.size:=by omega
  have bd:n0≠a.heap.size:=by omega
  have bg:F≠a.heap.size:=by omega
  have mg:=J (P.alloc (.cells #[.int .i64 0,.int .i64 0,.int .i64 0] 54));have ak:=J (bB.alloc aR (.cells #[.int .i64 0,.int .i64 0,.int .i64 0] 54));have uA:Hid (Bk (a.alloc (.cells #[.int .i64 0,.int .i64 0,.int .i64 0] 54)) a.heap.size 54 #[.int .i64 0,.int .i64 0,.int .i64 0]):=Bk.new _ _ _;clear P bB;go_wp2_with fail
  refine(tK _ _ _ (by exact mg) (by exact(HP.below ak).at.gm)).mono ?_;rintro e N ⟨rfl,al,Q⟩;have S:=bu ak Q (ae _);obtain⟨T,a0⟩:=aj S;have r:Bk N a.heap.size 54 #[.int .i64 0,.int .i64 0,.int .i64 0]:=Bk.L Q uA (by omega);have FV:N.cell? (a,0)=some (.int .i64 0):=r.cell 0;have bh:N.cell? (a,1)=some (.int .i64 0):=r.cell 1;have bj:N.cell? (a,2)=some (.int .i64 0):=r.cell 2;have y2:=r.frozen 0;have bk:=r.lt;have YT:N.cell? (n0,o+6+2)=some (.string ⟨y.toArray⟩):=(T _ _ hb).trans q2;have bl:N.cell? (n0,o+9+2)=some (.string ⟨z.toArray⟩):=(T _ _ hb).trans q3;have nO:Hid (i8 (N.setCell (a,0) (.int .i64 C)) W.heap.size p (kV gl 0 w)):=Bk.I al (by simp;omega) _;have a4:=J (S.setCell (p:=(a,0)) (by simp;omega) (.int .i64 C));have lZ:Hid (Bk (N.setCell (a,0) (.int .i64 C)) a.heap.size 54 #[C,.int .i64 0,.int .i64 0]):=r.set 0 _;clear al Q S r ad aQ;go_wp2_with fail
  refine(uC _ _ _ (by exact nO)).mono ?_;rintro e U ⟨rfl,ao,V⟩;have c9:=bu a4 V (ae _);obtain⟨ap,a5⟩:=aj c9;have u:Bk U a.heap.size 54 #[C,.int .i64 0,.int .i64 0]:=Bk.L V lZ (by omega);have bm:U.cell? (a,0)=some (.int .i64 C):=u.cell 0;have JH:U.cell? (a,1)=some (.int .i64 0):=u.cell 1;have bn:U.cell? (a,2)=some (.int .i64 0):=u.cell 2;have y3:=u.frozen 1;have bo:=u.lt;have bp:U.cell? (n0,o+9+2)=some (.string ⟨z.toArray⟩):=(ap _ _ hb).trans q3;have ou:Hid (i8 (U.setCell (a,1) (.int .i64 H)) W.heap.size p (aP (kV gl 0 w) y)):=Bk.I ao (by simp;omega) _;have a6:=J (c9.setCell (p:=(a,1)) (by simp;omega) (.int .i64 H));have lM:Hid (Bk (U.setCell (a,1) (.int .i64 H)) a.heap.size 54 #[C,H,.int .i64 0]):=u.set 1 _;clear ao V c9 u T a0;go_wp2_with fail
  refine(Ef _ _ _ (by exact ou)).mono ?_;rintro e X ⟨rfl,aq,Y⟩;have Z:=bu a6 Y (ae _);obtain⟨bq,br⟩:=aj Z;have x:Bk X a.heap.size 54 #[C,H,.int .i64 0]:=Bk.L Y lM (by omega);have bs:X.cell? (a,0)=some (.int .i64 C):=x.cell 0;have bv:X.cell? (a,1)=some (.int .i64 H):=x.cell 1;have bw:X.cell? (a,2)=some (.int .i64 0):=x.cell 2;have y4:=x.frozen 2;have bx:=x.lt;have a7:Hid (i8 (X.setCell (a,2) (.int .i64 M)) W.heap.size p (aP (aP (kV gl 0 w) y) z)):=Bk.I aq (by simp;omega) _;have a8:=J (Z.setCell (p:=(a,2)) (by simp;omega) (.int .i64 M));have ZX:Hid (Bk (X.setCell (a,2) (.int .i64 M)) a.heap.size 54 #[C,H,M]):=x.set 2 _;clear aq Y Z x ap a5;go_wp2_with fail
  obtain⟨I,aa⟩:∃I,X.setCell (a,2) (.int .i64 M)=I:=⟨_,rfl⟩
  rw[aa];have Hr:=a7;have Hb:=a8;have fU:=ZX;rw[aa]at Hr Hb fU;have yD:I.cell? (a,0)=some (.int .i64 C):=fU.cell 0;have Am:I.cell? (a,1)=some (.int .i64 H):=fU.cell 1;have En:I.cell? (a,2)=some (.int .i64 M):=fU.cell 2;have aN:=HP.below Hb;have Au:I.cell? (F,q+5)=some (A0 (rv 10).n c0):=((aj Hb).1 _ _ O).trans kp;have zp:F<I.heap.size:=mz O Hb.size;have zc:a.heap.size<I.heap.size:=fU.lt;have zr:W.heap.size<I.heap.size:=Hr.lt;have D:=aN.live.own 10 (by decide);rw[hv]at D;obtain⟨A5,c5,w9,ba,aW,ay,bF⟩:=jh LU 47 I Bd _ c0 A0 _ #[C,H,M] rfl D (by simp[Value.oneCell']) (by omega) (by omega);rw[<-hv]at ay bF;have cZ:∃E,Bk w9 F 52 E/\E[q+5]?=some (rv 10).v:=by obtain⟨E,bf⟩:=yj.out;have h1:Bk w9 F 52 E:=Bk.grown (bf.keep (Hb.block F O)) ay (aN.live.own 10 (by decide)) (by decide);exact⟨E,h1,by rw[<-bf.cell,kp,hv]⟩
  obtain⟨Np,cZ,vP⟩:=cZ;have kM:=Bk.grown Hr ay (aN.live.own 10 (by decide)) (by decide);have x9:w9.cell? (F,q+5)=some (rv 10).v:=(cZ.cell _).trans vP;have y9:=cZ.frozen (q+5);have z9:w9.cell? ⟨W.heap.size,1,none⟩=some (.int .i64 (aP (aP (kV gl 0 w) y) z)):=kM.cell 1;generalize bz:aP (aP (kV gl 0 w) y) z=er at*
  have bZ:=J (ie.arv (m:=1) (K':=K+n9 3) aN Hs H0 ay aW bF (ys:=[⟨C,H,M⟩]) rfl (Fl.one (R:=lS) (⟨rfl,aE,aL,aM⟩) rfl) (by unfold n9;simp));rw[<-Hq.out]at bZ;have jd:=J (Hb.mono hB);have HQ:=J (KQ.below (cm:=cm) Hb);clear aa D aW ay bF cZ kM aN;go_region
  all_goals
   go_wp2;go_ret
   obtain⟨bA,g1,g2,g3,-⟩:=bZ;exact iS.fin HR (jd.trans g3) (HQ.trans g2) g1
 have HR:=J (JN gl s l h1);have e1:((n:Int)==4)=false:=by simp;omega
 have e2:((n:Int) !=4)=true:=by simp;omega
 clear L hL hT h1 hn hs h0 hq;go_enter Tryz.func52,Tryz.ntmps52
 go_wp2;go_ret
 exact iS.bad HR (gD _ _)
theorem Vl (Bd p gm cm:Nat)(gl:Gl)(s:PS)(rv:Rows)(K:Nat)(A:Option Addr)(n c:Nat)(ws:List P3)(t:B)(l:List B)(C:ie W Bd p gm cm gl s rv K)(I:lR W A n ws)(ay:af ws=t::l)(hK:K<=10000000000)(hc:n<=c)(kL:mB W)(EE:nT<=Bd)(D:s.f.ga=v++[g])(L:(rv 0).v=.slice (G,0) j b)(c9:q=v.length*9):
  Calls Tryz.prog 55 #[.pointer (p,0),A n c,.pointer (G,q)] W (iS W Bd p gm cm gl (K+n) (wX s l)):=by
 have hn:n=l.length+1:=by rw[<-I.length];exact dR ay
 have hB:=C.size;have ar:=I.i;obtain⟨A',ao,o,a⟩:=I.sub hc 1 1 rfl (by omega);have M:=J (OT W A' (n - 1) (c - 1) (ws.drop 1) o a (by omega));have aE:(ws.drop 1).all (λx=>TU x.2.2)=AX l:=by rw[Ea,kX ay];rfl
 rw[aE]at M;cases w:AX l with
 |false=>
  rw[w]at M;have HR:Hid (wX s l=.error 22):=by show _=_;unfold wX;rw[if_neg (AO D),if_pos w]
  clear w aE C I ay o a kL hn D L c9;go_enter Tryz.func55,Tryz.ntmps55
  go_wp2_with (go_at_call 93;refine M.mono ?_;rintro e z ⟨rfl,d⟩)
  go_ret
  exact iS.bad HR (d.mono hB)
 |true=>
  rw[w]at M;have HP:=J C;have aa:=J kL;obtain⟨r,ab,ci,gv,-,-,ac,lH,Ez,xK⟩:=C.sr D;obtain⟨rfl,ad,rfl⟩:r=G/\v.length+1=j/\ab=b:=by rw[gv]at L;simpa using L
  have E:r<W.heap.size:=ac;obtain⟨X,Y,Z⟩:=C.slice (i:=13) (by decide);have kp:W.cell? (r,q+8)=some (rv 13).v:=by rw[c9];exact lH 8 (by decide)
  rw[Z]at kp;have ap:=C.i 13 (by decide);have HR:Hid (wX s l=fin (l.foldl uH 0) {s with f:= {s.f with ga:=v++[{g with gR:=g.gR++l.map lD}]}}):=by show _=_;unfold wX;rw[if_neg (AO D),if_neg (by rw[w];simp),yc s _ D]
  have Hs:=J D;have Hq:=J c9;have H0:=J L;have yj:=J xK;have N:=J (λz rb (hr:i8 z rb p 0) (hb:Below W W z) (bf:W.heap.size<=rb)=>yx z rb p 0 A' (n - 1) (c - 1) (ws.drop 1) (aa.below hb) (nt EE (nt hB bf)) hr (o.below hb) a (by omega));rw[kX ay]at N;have O:l.length=n - 1:=by omega
  have ak:=J (λ(W:World) S=>yq W S (l.map lD) (Xv l));have al:Hid (n - 1=(l.map lD).length):=by show _=_;simp[O]
  have P:=J (Td (l.map lD));have av:n - 1<=n:=by omega
  have aw:1<=n:=by omega
  clear C I ay o a O hn kL aE w D L c9 gv lH Ez xK ad;go_enter Tryz.func55,Tryz.ntmps55
  go_wp2_with (go_at_call 93;refine M.mono ?_;rintro e w0 ⟨rfl,u⟩)
  go_wp2_with fail
  refine(iE w0 p).mono ?_;rintro e z ⟨rfl,F,Fj⟩;have d:Below W W z:=u.trans (Fj.mono u.size);have k1:z.cell? (r,q+8)=some (X (rv 13).n Y):=((aj d).1 _ _ E).trans kp;have aD:z.drew.cell? (r,q+8)=some (X (rv 13).n Y):=k1;have Q:=u.size;have mg:=J F;have R:=J d;clear F d u Fj;go_wp2_with fail
  go_region_with (go_at_call 94;refine(N _ _ (by exact mg) (by exact R.drew) Q).mono ?_;rintro e w2 ⟨n0,rfl,A4,c4,rfl,bW,T,U⟩;have h:=bu R.drew U Q;have H:=HP.below h;have k:=H.live.own 13 (by decide);rw[Z]at k;have FP:=(jX bW).rd;obtain⟨A5,c5,w9,aq,aW,V,bF⟩:=JX AC 50 w2 Bd _ Y X _ _ A4 (n - 1) c4 _ k FP P (by omega) H.size;have k2:w2.cell? (r,q+8)=some (X (rv 13).n Y):=((aj h).1 _ _ E).trans kp;rw[<-Z]at V bF;obtain⟨Np,cZ,vP⟩:∃y,Bk w9 r 52 y/\y[q+8]?=some (rv 13).v:=(by obtain⟨y,bf⟩:=yj;exact⟨y,Bk.grown (bf.keep (h.block r E)) V (H.live.own 13 (by decide)) (by decide),by rw[<-bf.cell,kp,Z]⟩);have kM:=Bk.grown T V (H.live.own 13 (by decide)) (by decide);have x9:w9.cell? (r,q+8)=some (rv 13).v:=(cZ.cell _).trans vP;have y9:=cZ.frozen (q+8);have z9:w9.cell? (w0,1)=some (.int .i64 (l.foldl uH 0)):=kM.cell 1;have bZ:=J (ie.aru (m:=n - 1) (K':=K+n) H Hs H0 V aW bF al (ak _ _) (by omega));rw[<-Hq.out]at bZ;have jd:=J (h.mono hB);have HQ:=J (KQ.below (cm:=cm) h);clear k aW V bF cZ kM H h bW T U FP)
  all_goals
   go_wp2;go_ret
   obtain⟨aM,g1,g2,g3,-⟩:=bZ;exact iS.fin HR (jd.trans g3) (HQ.trans g2) g1
theorem Vk (Bd p w cm:Nat)(gl:Gl)(s:PS)(rv:Rows)(K:Nat)(A:Option Addr)(n c:Nat)(ws:List P3)(t:B)(l:List B)(u:ie W Bd p w cm gl s rv K)(D:lR W A n ws)(E:af ws=t::l)(hK:K<=10000000000)(hc:n<=c)(X:mB W)(EE:nT<=Bd):
  Calls Tryz.prog 47 #[.pointer (p,0),A n c] W (iS W Bd p w cm gl (K+n) (Bf s l)):=by
 have hn:n=l.length+1:=by rw[<-D.length];exact dR E
 have Y:=u.size;have aq:=D.i;obtain⟨A',ak,k,a⟩:=D.sub hc 1 1 rfl (by omega);have F:=J (OT W A' (n - 1) (c - 1) (ws.drop 1) k a (by omega));have g:(ws.drop 1).all (λx=>TU x.2.2)=AX l:=by rw[Ea,kX E];rfl
 rw[g]at F;cases b:AX l with
 |false=>
  rw[b]at F;have Z:Hid (Bf s l=.error 22):=by show _=_;unfold Bf;rw[if_pos b]
  clear b g u D E k a X hn;go_enter Tryz.func47,Tryz.ntmps47
  go_wp2_with (go_at_call 93;refine F.mono ?_;rintro e y ⟨rfl,d⟩)
  go_ret
  exact iS.bad Z (d.mono Y)
 |true=>
  rw[b]at F;have HP:=J u;have aa:=J X;have G:p<W.heap.size:=u.par.lt;obtain⟨Q,T,hv⟩:=u.slice (i:=6) (by decide);have kp:W.cell? (p,7)=some (rv 6).v:=u.par.cell 7;rw[hv]at kp;have al:=u.i 6 (by decide);have Z:Hid (Bf s l=fin (l.foldl uH 0) {s with f:= {s.f with fY:=s.f.fY++[l.map lD]}}):=by show _=_;unfold Bf;rw[if_neg (by rw[b];simp)]
  have H:=J (λy rb (hr:i8 y rb p 0) (hb:Below W W y) (bf:W.heap.size<=rb)=>yx y rb p 0 A' (n - 1) (c - 1) (ws.drop 1) (aa.below hb) (nt EE (nt Y bf)) hr (k.below hb) a (by omega));rw[kX E]at H;have I:l.length=n - 1:=by omega
  have ab:=J (λ(W:World) S=>yq W S (l.map lD) (Xv l));have ac:Hid (n - 1=(l.map lD).length):=by show _=_;simp[I]
  have av:1<=n:=by omega
  clear u D E k a I hn X g b;go_enter Tryz.func47,Tryz.ntmps47
  go_wp2_with (go_at_call 93;refine F.mono ?_;rintro e w0 ⟨rfl,o⟩)
  go_wp2_with fail
  refine(iE w0 p).mono ?_;rintro e y ⟨rfl,z,Fj⟩;have d:Below W W y:=o.trans (Fj.mono o.size);have k1:y.cell? (p,7)=some (Q (rv 6).n T):=((aj d).1 _ _ G).trans kp;have aw:y.drew.cell? (p,7)=some (Q (rv 6).n T):=k1;have ao:=o.size;have ad:=d.size;have mg:=J z;have L:=J d;clear z d o Fj;go_wp2_with fail
  go_region_with (go_at_call 94;refine(H _ _ (by exact mg) (by exact L.drew) ao).mono ?_;rintro e M ⟨v,rfl,A4,c4,rfl,U,N,O⟩;have h:=bu L.drew O ao;have q:=HP.below h;have j:=q.live.own 6 (by decide);rw[hv]at j;obtain⟨A5,c5,w9,ap,aW,C,V⟩:=Bg LM 30 M Bd _ T Q _ #[A4 (n - 1) c4] rfl j (by simp[Value.oneCell']) (by omega) q.size;have k2:M.cell? (p,7)=some (Q (rv 6).n T):=((aj h).1 _ _ G).trans kp;have aE:p<M.heap.size:=q.par.lt;rw[<-hv]at C V;have cZ:Bk w9 p kJ (eQ s rv w cm):=(q.row (i:=6) (by decide) (r:=⟨A5 ((rv 6).n+1) c5,_,_⟩) C aW V).1;have kM:=Bk.grown N C (q.live.own 6 (by decide)) (by decide);have x9:w9.cell? (p,7)=some (rv 6).v:=cZ.cell 7;have y9:=cZ.frozen 7;have z9:w9.cell? (w0,1)=some (.int .i64 (l.foldl uH 0)):=kM.cell 1;have P:kx M (Fz M rv) [A4 (n - 1) c4] (l.map lD):=(by rw[ac.out]at U ⊢;exact⟨A4,c4,rfl,Sl.pk U (ab _ _) (HP.fresh U ad (by decide)) (by decide)⟩);have bZ:=J (ie.ars (m:=1) (K':=K+n) q C aW V (ys:=[l.map lD]) rfl (Fl.one (R:=kx) P rfl) (by omega));have jd:=J ((h.mono Y).trans (q.qD (i:=6) (by decide) C 7 (A5 ((rv 6).n+1) c5) q.size));have HQ:=J (KQ.below (cm:=cm) h);clear j aW C V cZ kM q h U N O P)
  all_goals
   go_wp2;go_ret
   exact iS.fin Z jd (HQ.trans bZ.2) bZ.1
theorem ie.look {c p:Nat}{b:Gl}(h:ie x c p G j b u f q)(t:B):(Instr.lookup 89 (.map (some G)) (.string t) false).run Tryz.prog x=.ok (.int .i64 (gX b t)) x:=by
 have:=h.r.sq Tryz.underlying89 Tryz.underlying9 (OI _) t;have e:((b.lookup t).map λn=>Value.int .i64 (n:Nat)).getD (.int .i64 0)=.int .i64 (gX b t):=by unfold gX;cases b.lookup t<;>rfl
 rw[e]at this;exact this
theorem Cv (d:Gl)(s:PS)(l:List B)(h:l.length≠2)(c:∀a b,l≠[a,b,jo]):jv d s l=.error 22:=by
 unfold jv;split
 .rename_i n a r;rw[if_neg];rintro(e|e)
  .subst e;exact h rfl
  subst e;exact c _ _ rfl
 rfl
theorem MG (d:Gl)(s:PS)(a b:B)(r:List B)(c:r=[]\/r=[jo]):jv d s (a::b::r)=if aP (bQ 0 a) b≠0 then .error (aP (bQ 0 a) b)else if gX d a≠s.f.ga.length then .error 24
   else .ok {s with f:= {s.f with ga:=s.f.ga++[⟨a,aI b,!r.isEmpty,[],[],[],[],[],[]⟩]}} :=by
 show(if r=[]\/r=[jo]then _ else _)=_;rw[if_pos c]
theorem Zc (Bd p I cm:Nat)(gl:Gl)(s:PS)(rv:Rows)(K:Nat)(A:Option Addr)(n c:Nat)(ws:List P3)(t j u:B)(E:ie W Bd p I cm gl s rv K)(hL:lR W A n ws)(hT:af ws=t::[j,u])(hK:K<=10000000000):
  Calls Tryz.prog 49 #[.pointer (p,0),A n c] W (iS W Bd p I cm gl (K+n) (jv gl s [j,u])):=by
 have hn:n=3:=by rw[<-hL.length];exact dR hT
 have hB:=E.size;obtain⟨b,o,rfl,hb,q1,ap⟩:=hL.word (k:=1) (t:=j) (by rw[hT];rfl) (d:=3) rfl;obtain⟨b',o',e',-,q2,V⟩:=hL.word (k:=2) (t:=u) (by rw[hT];rfl) (d:=6) rfl;obtain⟨rfl,rfl⟩:b=b'/\o=o':=by simpa using e'
 clear e';subst hn;have HP:=J E;have w:p<W.heap.size:=E.par.lt;obtain⟨A0,c0,hv⟩:=E.slice (i:=0) (by decide);have kp:W.cell? (p,1)=some (rv 0).v:=E.par.cell 1;rw[hv]at kp;have kg:W.cell? (p,10)=some (.map (some I)):=E.par.cell 10;have aR:=E.i 0 (by decide);have bm:=E.D.p.1;have X:=J bm;have tK:=J (λW rb L h=>BZ W rb p L j h);have uC:=J (λW rb L h=>eG W rb p L u h V);have aq:=J (dU u);have HR:=J (MG gl s j u [] (by simp));have QI:=J (λW rv K (h:ie W Bd p I cm gl s rv K)=>h.look j);generalize aI u=D at*
 generalize gX gl j=vg at*
 clear E hL hT ap V bm;go_enter Tryz.func49,Tryz.ntmps49
 go_wp2_with fail
 refine(iE W p).mono ?_;rintro e a ⟨rfl,M,F⟩;obtain⟨Y,ar⟩:=aj F;have TV:a.cell? (b,o+3+2)=some (.string j):=(Y _ _ hb).trans q1;have a1:=M.lt;have av:=F.size;have a2:b<a.heap.size:=by omega
 have a3:b≠a.heap.size:=by omega
 have a4:p≠a.heap.size:=by omega
 have mg:=J (M.alloc (.cells #[.string ⟨#[]⟩,.int .i64 0,.bool false,(),(),(),(),(),()] 52));have Z:=J (F.alloc av (.cells #[.string ⟨#[]⟩,.int .i64 0,.bool false,(),(),(),(),(),()] 52));have uA:Hid (Bk (a.alloc (.cells #[.string ⟨#[]⟩,.int .i64 0,.bool false,(),(),(),(),(),()] 52)) a.heap.size 52 #[.string ⟨#[]⟩,.int .i64 0,.bool false,(),(),(),(),(),()]):=Bk.new _ _ _;clear M F Y ar;go_wp2_with fail
 refine(tK _ _ _ (by exact mg)).mono ?_;rintro e w2 ⟨rfl,aa,N⟩;have O:=bu Z N (ae _);obtain⟨ab,aw⟩:=aj O;have y:Bk w2 a.heap.size 52 #[.string ⟨#[]⟩,.int .i64 0,.bool false,(),(),(),(),(),()]:=Bk.L N uA (by omega);have FV:w2.cell? (a,0)=some (.string ⟨#[]⟩):=y.cell 0;have y2:=y.frozen 0;have a5:=y.lt;have YT:w2.cell? (b,o+6+2)=some (.string u):=(ab _ _ hb).trans q2;have nO:Hid (i8 (w2.setCell (a,0) (.string j)) W.heap.size p (bQ 0 j)):=Bk.I aa (by simp;omega) _;have ac:=J (O.setCell (p:=(a,0)) (by simp;omega) (.string j));have lZ:Hid (Bk (w2.setCell (a,0) (.string j)) a.heap.size 52 #[.string j,.int .i64 0,.bool false,(),(),(),(),(),()]):=y.set 0 _;clear aa N O y ab aw;go_wp2_with fail
 refine(uC _ _ _ (by exact nO)).mono ?_;rintro e U ⟨rfl,P,Q⟩;have ad:=bu ac Q (ae _);have G:Bk U a.heap.size 52 #[.string j,.int .i64 0,.bool false,(),(),(),(),(),()]:=Bk.L Q lZ (by omega);have JH:U.cell? (a,1)=some (.int .i64 0):=G.cell 1;have y3:=G.frozen 1;have aD:U.cell? ⟨W.heap.size,1,none⟩=some (.int .i64 (aP (bQ 0 j) u)):=P.cell 1;have ou:Hid (i8 (U.setCell (a,1) (.int .i64 D)) W.heap.size p (aP (bQ 0 j) u)):=Bk.I P (by simp;omega) _;have R:=J (ad.setCell (p:=(a,1)) (by simp;omega) (.int .i64 D));have lM:Hid (Bk (U.setCell (a,1) (.int .i64 D)) a.heap.size 52 #[.string j,D,.bool false,(),(),(),(),(),()]):=G.set 1 _;have a6:W.heap.size≠a.heap.size:=by omega
 clear P Q ad G;generalize aP (bQ 0 j) u=L at*
 by_cases he:L=0
 .subst he;obtain⟨l,H⟩:∃l,U.setCell (a,1) (.int .i64 D)=l:=⟨_,rfl⟩
  have Hr:=ou;have S:=R;have x:=lM;rw[H]at Hr S x;have aN:=HP.below S;have aE:=QI _ _ _ aN;have aL:(Instr.lookup 89 (.map (some I)) (.string j) false).run Tryz.prog l.drew=.ok (.int .i64 vg) l.drew:=QI l.drew rv K (aN.drewN 1);have Au:l.cell? (p,1)=some (A0 (rv 0).n c0):=((aj S).1 _ _ w).trans kp;have aM:l.cell? (p,10)=some (.map (some I)):=((aj S).1 _ _ w).trans kg;have yD:l.cell? (a,0)=some (.string j):=x.cell 0;have aQ:l.cell? ⟨W.heap.size,1,none⟩=some (.int .i64 0):=Hr.cell 1;have Am:l.cell? (a,1)=some (.int .i64 D):=x.cell 1;have En:l.cell? (a,2)=some (.bool false):=x.cell 2;have EU:l.cell? (a,3)=some (.slice none 0 0):=x.cell 3;have Lj:l.cell? (a,4)=some (.slice none 0 0):=x.cell 4;have Ll:l.cell? (a,5)=some (.slice none 0 0):=x.cell 5;have ak:l.cell? (a,6)=some (.slice none 0 0):=x.cell 6;have al:l.cell? (a,7)=some (.slice none 0 0):=x.cell 7;have ao:l.cell? (a,8)=some (.slice none 0 0):=x.cell 8;have zp:p<l.heap.size:=aN.par.lt;have zc:a.heap.size<l.heap.size:=x.lt;have zr:W.heap.size<l.heap.size:=Hr.lt;by_cases zH:vg=((rv 0).n:Int)
  .have z:Hid (jv gl s [j,u]=.ok {s with f:= {s.f with ga:=s.f.ga++[⟨j,D,false,[],[],[],[],[],[]⟩]}}):=by
    show _=_;rw[HR.out,if_neg (by simp),if_neg (by rw[zH,X.out];simp)];rfl
   subst zH;go_wp2_with fail
   try rw[H]
   go_region
   all_goals
    obtain⟨m,g⟩:∃m,l.drew=m:=⟨_,rfl⟩
    try rw[g]
    have a7:m.cell? (p,1)=some (A0 (rv 0).n c0):=by rw[<-g];exact Au
    have a8:m.cell? (a,0)=some (.string j):=by rw[<-g];exact yD
    have a9:m.cell? (a,1)=some (.int .i64 D):=by rw[<-g];exact Am
    have ba:m.cell? (a,2)=some (.bool false):=by rw[<-g];exact En
    have bb:m.cell? (a,3)=some (.slice none 0 0):=by rw[<-g];exact EU
    have bc:m.cell? (a,4)=some (.slice none 0 0):=by rw[<-g];exact Lj
    have bd:m.cell? (a,5)=some (.slice none 0 0):=by rw[<-g];exact Ll
    have bf:m.cell? (a,6)=some (.slice none 0 0):=by rw[<-g];exact ak
    have bg:m.cell? (a,7)=some (.slice none 0 0):=by rw[<-g];exact al
    have bh:m.cell? (a,8)=some (.slice none 0 0):=by rw[<-g];exact ao
    have bj:p<m.heap.size:=by rw[<-g];exact zp
    have bk:a.heap.size<m.heap.size:=by rw[<-g];exact zc
    have q:ie m Bd p I cm gl s rv K:=by rw[<-g];exact aN.drewN 1
    have T:Below W.heap.size W m:=by rw[<-g];exact S.drew
    have C:=q.live.own 0 (by decide);rw[hv]at C;obtain⟨A5,c5,w9,a0,aW,ay,bF⟩:=jh Ht 24 m Bd _ c0 A0 _ #[.string j,D,.bool false,(),(),(),(),(),()] rfl C (by simp[Value.oneCell']) (by omega) q.size;rw[<-hv]at ay bF;have cZ:Bk w9 p kJ (eQ s rv I cm):=(q.row (i:=0) (by decide) (r:=⟨A5 ((rv 0).n+1) c5,_,_⟩) ay aW bF).1;have x9:w9.cell? (p,1)=some (rv 0).v:=cZ.cell 1;have y9:=cZ.frozen 1;have bZ:=J (q.Bt (nm:=j) (oo:=D) (mk:=false) ay aW bF aq (K':=K+3) (by omega));have jd:=J ((T.mono hB).trans (q.qD (i:=0) (by decide) ay 1 (A5 ((rv 0).n+1) c5) q.size));have HQ:=J (KQ.below (cm:=cm) T);clear QI aE aL mg nO ou Z ac R uA lZ lM tK uC H g FV JH aD y2 y3 C aW ay bF cZ q T aN Hr S x Au aM yD Am En EU Lj Ll ak al ao aQ;go_wp2_with fail
    go_region
    all_goals
     go_wp2;go_ret
     obtain⟨bl,g1,g2⟩:=bZ;exact iS.O z jd (HQ.trans g2) g1
  have z:Hid (jv gl s [j,u]=.error 24):=by show _=_;rw[HR.out,if_neg (by simp),if_pos (by rw[<-X.out];exact zH)]
  have e3:(vg !=((rv 0).n:Int))=true:=by simpa using zH
  clear zH;go_wp2_with fail
  try rw[H]
  go_region
  all_goals
   go_wp2;go_ret
   exact iS.bad z (S.drew.mono hB)
 have z:Hid (jv gl s [j,u]=.error L):=by show _=_;rw[HR.out,if_pos he]
 have e1:(L==0)=false:=by simpa using he
 have e2:(L !=0)=true:=by simpa using he
 clear he;go_wp2;go_ret
 exact iS.bad z (R.mono hB)
theorem Zb (Bd p I cm:Nat)(gl:Gl)(s:PS)(rv:Rows)(K:Nat)(A:Option Addr)(n c:Nat)(ws:List P3)(t j u:B)(E:ie W Bd p I cm gl s rv K)(V:lR W A n ws)(w:af ws=t::[j,u,jo])(hK:K<=10000000000):
  Calls Tryz.prog 49 #[.pointer (p,0),A n c] W (iS W Bd p I cm gl (K+n) (jv gl s [j,u,jo])):=by
 have hn:n=4:=by rw[<-V.length];exact dR w
 have hB:=E.size;obtain⟨b,o,rfl,hb,q1,av⟩:=V.word (k:=1) (t:=j) (by rw[w];rfl) (d:=3) rfl;obtain⟨b',o',X,-,q2,Y⟩:=V.word (k:=2) (t:=u) (by rw[w];rfl) (d:=6) rfl;obtain⟨rfl,rfl⟩:b=b'/\o=o':=by simpa using X
 clear X;obtain⟨b',o',X,-,q3,aw⟩:=V.word (k:=3) (t:=jo) (by rw[w];rfl) (d:=9) rfl;obtain⟨rfl,rfl⟩:b=b'/\o=o':=by simpa using X
 clear X aw;have aD:jo.toArray=#[109,97,114,107]:=rfl;rw[aD]at q3;subst hn;have HP:=J E;have Z:p<W.heap.size:=E.par.lt;obtain⟨A0,c0,hv⟩:=E.slice (i:=0) (by decide);have kp:W.cell? (p,1)=some (rv 0).v:=E.par.cell 1;rw[hv]at kp;have kg:W.cell? (p,10)=some (.map (some I)):=E.par.cell 10;have a4:=E.i 0 (by decide);have br:=E.D.p.1;have aa:=J br;have tK:=J (λW rb L h=>BZ W rb p L j h);have uC:=J (λW rb L h=>eG W rb p L u h Y);have aE:=J (dU u);have HR:=J (MG gl s j u [jo] (by simp));have QI:=J (λW rv K (h:ie W Bd p I cm gl s rv K)=>h.look j);generalize aI u=D at*
 generalize gX gl j=vg at*
 clear E V w av Y br;go_enter Tryz.func49,Tryz.ntmps49
 go_wp2_with fail
 refine(iE W p).mono ?_;rintro e a ⟨rfl,M,F⟩;obtain⟨ab,aL⟩:=aj F;have TV:a.cell? (b,o+3+2)=some (.string j):=(ab _ _ hb).trans q1;have a6:=M.lt;have aM:=F.size;have a7:b<a.heap.size:=by omega
 have a8:b≠a.heap.size:=by omega
 have a9:p≠a.heap.size:=by omega
 have mg:=J (M.alloc (.cells #[.string ⟨#[]⟩,.int .i64 0,.bool true,(),(),(),(),(),()] 52));have ac:=J (F.alloc aM (.cells #[.string ⟨#[]⟩,.int .i64 0,.bool true,(),(),(),(),(),()] 52));have uA:Hid (Bk (a.alloc (.cells #[.string ⟨#[]⟩,.int .i64 0,.bool true,(),(),(),(),(),()] 52)) a.heap.size 52 #[.string ⟨#[]⟩,.int .i64 0,.bool true,(),(),(),(),(),()]):=Bk.new _ _ _;clear M F ab aL;go_wp2_with fail
 refine(tK _ _ _ (by exact mg)).mono ?_;rintro e w2 ⟨rfl,ad,N⟩;have O:=bu ac N (ae _);obtain⟨ak,aQ⟩:=aj O;have y:Bk w2 a.heap.size 52 #[.string ⟨#[]⟩,.int .i64 0,.bool true,(),(),(),(),(),()]:=Bk.L N uA (by omega);have FV:w2.cell? (a,0)=some (.string ⟨#[]⟩):=y.cell 0;have y2:=y.frozen 0;have ba:=y.lt;have YT:w2.cell? (b,o+6+2)=some (.string u):=(ak _ _ hb).trans q2;have nO:Hid (i8 (w2.setCell (a,0) (.string j)) W.heap.size p (bQ 0 j)):=Bk.I ad (by simp;omega) _;have al:=J (O.setCell (p:=(a,0)) (by simp;omega) (.string j));have lZ:Hid (Bk (w2.setCell (a,0) (.string j)) a.heap.size 52 #[.string j,.int .i64 0,.bool true,(),(),(),(),(),()]):=y.set 0 _;clear ad N O y ak aQ;go_wp2_with fail
 refine(uC _ _ _ (by exact nO)).mono ?_;rintro e U ⟨rfl,P,Q⟩;have ao:=bu al Q (ae _);have G:Bk U a.heap.size 52 #[.string j,.int .i64 0,.bool true,(),(),(),(),(),()]:=Bk.L Q lZ (by omega);have JH:U.cell? (a,1)=some (.int .i64 0):=G.cell 1;have y3:=G.frozen 1;have aR:U.cell? ⟨W.heap.size,1,none⟩=some (.int .i64 (aP (bQ 0 j) u)):=P.cell 1;have ou:Hid (i8 (U.setCell (a,1) (.int .i64 D)) W.heap.size p (aP (bQ 0 j) u)):=Bk.I P (by simp;omega) _;have R:=J (ao.setCell (p:=(a,1)) (by simp;omega) (.int .i64 D));have lM:Hid (Bk (U.setCell (a,1) (.int .i64 D)) a.heap.size 52 #[.string j,D,.bool true,(),(),(),(),(),()]):=G.set 1 _;have bb:W.heap.size≠a.heap.size:=by omega
 clear P Q ao G;generalize aP (bQ 0 j) u=L at*
 by_cases he:L=0
 .subst he;obtain⟨l,H⟩:∃l,U.setCell (a,1) (.int .i64 D)=l:=⟨_,rfl⟩
  have Hr:=ou;have S:=R;have x:=lM;rw[H]at Hr S x;have aN:=HP.below S;have a0:=QI _ _ _ aN;have a1:(Instr.lookup 89 (.map (some I)) (.string j) false).run Tryz.prog l.drew=.ok (.int .i64 vg) l.drew:=QI l.drew rv K (aN.drewN 1);have Au:l.cell? (p,1)=some (A0 (rv 0).n c0):=((aj S).1 _ _ Z).trans kp;have a2:l.cell? (p,10)=some (.map (some I)):=((aj S).1 _ _ Z).trans kg;have yD:l.cell? (a,0)=some (.string j):=x.cell 0;have a3:l.cell? ⟨W.heap.size,1,none⟩=some (.int .i64 0):=Hr.cell 1;have Am:l.cell? (a,1)=some (.int .i64 D):=x.cell 1;have En:l.cell? (a,2)=some (.bool true):=x.cell 2;have EU:l.cell? (a,3)=some (.slice none 0 0):=x.cell 3;have Lj:l.cell? (a,4)=some (.slice none 0 0):=x.cell 4;have Ll:l.cell? (a,5)=some (.slice none 0 0):=x.cell 5;have ap:l.cell? (a,6)=some (.slice none 0 0):=x.cell 6;have aq:l.cell? (a,7)=some (.slice none 0 0):=x.cell 7;have ar:l.cell? (a,8)=some (.slice none 0 0):=x.cell 8;have zp:p<l.heap.size:=aN.par.lt;have zc:a.heap.size<l.heap.size:=x.lt;have zr:W.heap.size<l.heap.size:=Hr.lt;by_cases zH:vg=((rv 0).n:Int)
  .have z:Hid (jv gl s [j,u,jo]=.ok {s with f:= {s.f with ga:=s.f.ga++[⟨j,D,true,[],[],[],[],[],[]⟩]}}):=by
    show _=_;rw[HR.out,if_neg (by simp),if_neg (by rw[zH,aa.out];simp)];rfl
   subst zH;go_wp2_with fail
   try rw[H]
   go_region
   all_goals
    obtain⟨m,g⟩:∃m,l.drew=m:=⟨_,rfl⟩
    try rw[g]
    have bc:m.cell? (p,1)=some (A0 (rv 0).n c0):=by rw[<-g];exact Au
    have bd:m.cell? (a,0)=some (.string j):=by rw[<-g];exact yD
    have bf:m.cell? (a,1)=some (.int .i64 D):=by rw[<-g];exact Am
    have bg:m.cell? (a,2)=some (.bool true):=by rw[<-g];exact En
    have bh:m.cell? (a,3)=some (.slice none 0 0):=by rw[<-g];exact EU
    have bj:m.cell? (a,4)=some (.slice none 0 0):=by rw[<-g];exact Lj
    have bk:m.cell? (a,5)=some (.slice none 0 0):=by rw[<-g];exact Ll
    have bl:m.cell? (a,6)=some (.slice none 0 0):=by rw[<-g];exact ap
    have bm:m.cell? (a,7)=some (.slice none 0 0):=by rw[<-g];exact aq
    have bn:m.cell? (a,8)=some (.slice none 0 0):=by rw[<-g];exact ar
    have bo:p<m.heap.size:=by rw[<-g];exact zp
    have bp:a.heap.size<m.heap.size:=by rw[<-g];exact zc
    have q:ie m Bd p I cm gl s rv K:=by rw[<-g];exact aN.drewN 1
    have T:Below W.heap.size W m:=by rw[<-g];exact S.drew
    have C:=q.live.own 0 (by decide);rw[hv]at C;obtain⟨A5,c5,w9,a5,aW,ay,bF⟩:=jh Ht 24 m Bd _ c0 A0 _ #[.string j,D,.bool true,(),(),(),(),(),()] rfl C (by simp[Value.oneCell']) (by omega) q.size;rw[<-hv]at ay bF;have cZ:Bk w9 p kJ (eQ s rv I cm):=(q.row (i:=0) (by decide) (r:=⟨A5 ((rv 0).n+1) c5,_,_⟩) ay aW bF).1;have x9:w9.cell? (p,1)=some (rv 0).v:=cZ.cell 1;have y9:=cZ.frozen 1;have bZ:=J (q.Bt (nm:=j) (oo:=D) (mk:=true) ay aW bF aE (K':=K+4) (by omega));have jd:=J ((T.mono hB).trans (q.qD (i:=0) (by decide) ay 1 (A5 ((rv 0).n+1) c5) q.size));have HQ:=J (KQ.below (cm:=cm) T);clear QI a0 a1 mg nO ou ac al R uA lZ lM tK uC H g FV JH aR y2 y3 C aW ay bF cZ q T aN Hr S x Au a2 yD Am En EU Lj Ll ap aq ar a3;go_wp2_with fail
    go_region
    all_goals
     go_wp2;go_ret
     obtain⟨bq,g1,g2⟩:=bZ;exact iS.O z jd (HQ.trans g2) g1
  have z:Hid (jv gl s [j,u,jo]=.error 24):=by show _=_;rw[HR.out,if_neg (by simp),if_pos (by rw[<-aa.out];exact zH)]
  have e3:(vg !=((rv 0).n:Int))=true:=by simpa using zH
  clear zH;go_wp2_with fail
  try rw[H]
  go_region
  all_goals
   go_wp2;go_ret
   exact iS.bad z (S.drew.mono hB)
 have z:Hid (jv gl s [j,u,jo]=.error L):=by show _=_;rw[HR.out,if_pos he]
 have e1:(L==0)=false:=by simpa using he
 have e2:(L !=0)=true:=by simpa using he
 clear he;go_wp2;go_ret
 exact iS.bad z (R.mono hB)
theorem Zd (M p y N:Nat)(L:Gl)(s:PS)(P:Rows)(K:Nat)(A:Option Addr)(n c:Nat)(O:List P3)(t:B)(l:List B)(j:ie W M p y N L s P K)(g:lR W A n O)(h:af O=t::l)(m:l.length≠2)(i:∀a b,l≠[a,b,jo]):
  Calls Tryz.prog 49 #[.pointer (p,0),A n c] W (iS W M p y N L (K+n) (jv L s l)):=by
 have q:n=l.length+1:=by rw[<-g.length];exact dR h
 have E:=j.size;have z:=J (Cv L s l m i);by_cases r:l.length=3
 .obtain⟨u,v,f,rfl⟩:∃u v f,l=[u,v,f]:=by
   match l,r with
   |[a,b,c],_=>exact⟨a,b,c,rfl⟩
  obtain⟨b,o,rfl,F,G,x⟩:=g.word (k:=3) (t:=f) (by rw[h];rfl) (d:=9) rfl;have C:f≠jo:=λe=>i u v (by rw[e])
  have D:(f==[109,97,114,107])=false:=by rw[beq_eq_false_iff_ne];exact C
  simp only[aV,ln]at q;subst q;clear j g h m i r C x;go_enter Tryz.func49,Tryz.ntmps49
  go_wp2;go_ret
  exact iS.bad z (gD _ _)
 have H:((n:Int)==4)=false:=by simp;omega
 have D:((n:Int)==3)=false:=by simp;omega
 have I:((n:Int) !=3)=true:=by simp;omega
 clear j g h m i r q;go_enter Tryz.func49,Tryz.ntmps49
 go_wp2;go_ret
 exact iS.bad z (gD _ _)
theorem Ul (r p d u:Nat)(q:Gl)(s:PS)(x:Rows)(K:Nat)(A:Option Addr)(n c:Nat)(v:List P3)(t:B)(l:List B)(h:ie W r p d u q s x K)(i:lR W A n v)(j:af v=t::l)(k:K<=10000000000):
  Calls Tryz.prog 49 #[.pointer (p,0),A n c] W (iS W r p d u q (K+n) (jv q s l)):=by
 by_cases m:l.length=2
 .obtain⟨f,g,rfl⟩:∃f g,l=[f,g]:=by
   match l,m with
   |[a,b],_=>exact⟨a,b,rfl⟩
  exact Zc W r p d u q s x K A n c v t f g h i j k
 by_cases o:∃a b,l=[a,b,jo]
 .obtain⟨f,g,rfl⟩:=o;exact Zb W r p d u q s x K A n c v t f g h i j k
 exact Zd W r p d u q s x K A n c v t l h i j m (λa b e=>o ⟨a,b,e⟩)
end
theorem Lv {R:Rel α}{S:Bs}{c:List Value}{z:List α}(f:∀y d v,R x S y v->R x S d v->y=d)(h:Fl R G x S c z)(j:Fl R G x S D z)(k:0<G):c=D:=by
 apply List.ext_getElem?;intro i;by_cases hi:i<z.length*G
 .have n:i / G<z.length:=by
   rw[Nat.div_lt_iff_lt_mul k];exact hi
  have l:z[i / G]?=some z[i / G]:=jO n;obtain⟨y,o,p,q⟩:=h.2 _ _ l;obtain⟨d,r,u,s⟩:=j.2 _ _ l;obtain rfl:=f _ _ _ o r;have t:i % G<y.length:=by rw[p];exact Nat.mod_lt _ k
  have m:y[i % G]?=some y[i % G]:=jO t;have e:i / G*G+i % G=i:=by rw[Nat.mul_comm];exact Nat.div_add_mod i G
  have a:=q _ _ m;have b:=s _ _ m;rw[e]at a b;rw[a,b]
 rw[qn (by rw[h.1];omega),qn (by rw[j.1];omega)]
theorem Lq {S:Bs}{c:List Value}(h:Fl ky 2 x S c e):c=lG e:=
 Lv (λ_ _ _ a b=>a.1.trans b.1.symm) h (Nl x S e (λi hi=>by
  obtain⟨k,d⟩:=pn.1 hi;obtain⟨f,r,-⟩:=h.2 k i d;exact r.2)) (by omega)
theorem Nx {f:List TypeId}(h:Sl ky 2 x (TS f b x) A e):Rd x x.heap.size A e.length 2 (lG e):=by
 obtain⟨c,a,d⟩:=h.Ch TS.lt
 rwa [Lq a]at d
theorem Pu {b:List Ins}(h:nI e)(k:nI b):nI (e++b):=λx hx=>by
 rw[jp]at hx;rcases hx with hx|hx
 .exact h x hx
 exact k x hx
theorem WC (m:Nat)(fs:Nat->Value)(lp:Int)(n u t:Nat)(h:Mk W m fs lp)(f:0<=lp/\lp<=10)(R:n<=1000)(v:u<=1000)(y:1<=t)(xO:t<=6):Calls Tryz.prog 30 #[.pointer (m,0),n,u,t] W (ES W m fs 45):=by
 have S:=h.lt;have H:=J h;have T:=J f;clear h f;go_enter Tryz.func30,Tryz.ntmps30
 go_wp2_with fail
 refine(aA W m fs lp t H y (by omega)).mono ?_;rintro e w1 ⟨x,hx,rfl,g,j⟩;have U:=J g;have V:=J j;clear g j H;go_wp2_with fail
 go_loopw [9,11] (λo i wr=>∃(k:Nat) (p:List Ins) (A:Option Addr) (c:Nat) (l:Int),k<=x/\i=.int .i64 k/\o= A p.length c/\wr.ownsRow W.heap.size qj 2 (A p.length c) p.length (lG p)/\Hid (nI p/\p.length<=9*k/\0<=l/\l<=10)/\Hid (Mk wr m fs l)/\Hid (Mv m W wr)) (λ_ i _=>x - (intOf i).toNat)
 case atStart=>exact⟨0,[],none,0,lp,nz _,rfl,rfl,World.ownsRow_nil _ _ _ _,J ⟨jk,by simp,T⟩,U,V⟩
 case round=>
  obtain⟨w,rfl⟩:∃x,x=wr:=⟨_,rfl⟩
  obtain⟨k,p,A,c,l,hk,rfl,rfl,K,a,z,B⟩:=hrel;have C:=J K;have X:p.length<=100:=by have:=a.2.1;omega
  clear K;by_cases Y:k<x
  .go_wp2_with fail
   refine(Ja w m fs l n u z a.2.2 R v).mono ?_;rintro e L ⟨q,Z,c2,D,hq,BO,E,rfl,aa,r,s,b⟩;have d:=(Sp.next z b).own C (by decide);have F:=Nx r;have G:=iD B b;have I:=G.size;have uB:=J s;have VO:=J G;clear r s b G;go_wp2_with (at_builtin;refine Dc AC rfl (.tmp 20) (.tmp 24) rfl L W.heap.size p.length c A (lG p) L.heap.size Z q.length c2 (lG q) rfl rfl d F (Du q) (by omega) I ?_;intro M N w5 O P l5;have yS:=J O;have Q:=J P;clear O P l5)
   have QJ:=J ((Sp.push d (show m<=W.heap.size by omega) Q).mk uB (by decide));have ad:=J (lW VO d (ae _) Q);have QL:Hid (w5.ownsRow W.heap.size qj 2 (M (p++q).length N) (p++q).length (lG (p++q))):=(by rw[la,Dr];exact yS)
   have tN:Hid (nI (p++q)/\(p++q).length<=9*(k+1)/\0<=D/\D<=10):=J ⟨Pu a.1 hq,by rw[la];have:=a.2.1;omega,E⟩;go_roundw
   case rel=>exact⟨k+1,p++q,M,N,D,by omega,by simp,by simp,QL,tN,QJ,ad⟩
   case measure=>simp[intOf];omega
  go_wp2_with fail
  go_ret
  exact⟨p,A,c,l,a.1,by have:=a.2.1;omega,a.2.2,rfl,yP C,dV C (Nl _ _ p (WV a.1)) (by simp) (ae _) (by omega),z,B⟩
def PJ (w:World)(m:Nat)(a:Nat->Value)(b:Int)(G:Nat)(e:Ending)(w':World):Prop:=∃(s:List Int) (A:Option Addr) (c:Nat),py G s/\1<=s.length/\e=.returned (A s.length c)/\Sl gS 1 w' (TS [aK] w.heap.size w') A s/\Mk w' m a b/\Mv m w w'
theorem In.i64 (c:G<=1000){n:Int}(h:In G n):gN n:=by obtain⟨a,b⟩:=h;unfold gN;omega
theorem uj (m:Nat)(fs:Nat->Value)(lp:Int)(G:Nat)(ad:Option Addr)(K:Nat)(h:Mk W m fs lp)(L:fs 1= ad G K)(Y:1<=G)(M:G<=1000):Calls Tryz.prog 118 #[.pointer (m,0)] W (PJ W m fs lp G):=by
 have Z:=h.lt;have qg:W.cell? (m,3)=some (ad G K):=by have:=h.cells.1 1 (by omega);rw[L]at this;exact this
 have H:=J h;clear h L;go_enter Tryz.func118,Tryz.ntmps118
 go_wp2_with fail
 refine(aA W m fs lp G H Y (by omega)).mono ?_;rintro e l ⟨a,ha,rfl,p,q⟩;have H1:=J p;have N:=J q;clear p q H qg;go_wp2_with fail
 go_loopw [5,6] (λo i wr=>∃(k:Nat) (s:List Int) (A:Option Addr) (c:Nat),k<=G/\i=.int .i64 k/\o= A s.length c/\s.length<=4/\wr.ownsRow W.heap.size aK 1 (A s.length c) s.length (aC s)/\Hid (py G s/\1<=s.length/\∀x∈s,x<k)/\Hid (Mk wr m fs lp)/\Hid (Mv m W wr)) (λ_ i _=>G - (intOf i).toNat)
 case atStart=>have O:Below l l (l.alloc (.cells #[a] aK)):=(gD _ _).alloc (ae _) _;refine⟨a+1,[(a:Int)],some ⟨l.heap.size,0,none⟩,1,by omega,by simp,rfl,by simp,?_,J ⟨py.one ⟨by omega,by omega⟩,by simp,λx f=>by simp only[js]at f;omega⟩,J (H1.below O),J (lq N O)⟩;exact yQ l W.heap.size aK 1 1 #[a] N.size rfl (by omega)
 case round=>
  obtain⟨wa,rfl⟩:∃x,x=wr:=⟨_,rfl⟩
  obtain⟨k,s,A,c,hk,rfl,rfl,v,P,b,u,z⟩:=hrel;have B:=J P;clear P;by_cases aa:k<G
  .by_cases C:s.length<4
   .go_wp2_with fail
    refine(aA wa m fs lp 3 u (by omega) (by omega)).mono ?_;rintro e Q ⟨y,hy,rfl,r,g⟩;have d:=(Sp.next u g).own B (by decide);have R:=J r;have D:=iD z g;have E:=D.size;have S:=J D;clear r g D;by_cases t:y=0
    .have e0:((y:Int)==0)=true:=by simp;omega
     have j:Hid (py G (s++[(k:Int)])/\1<=(s++[(k:Int)]).length/\∀x∈s++[(k:Int)],x<((k+1:Nat):Int)):=J ⟨b.1.snoc ⟨by omega,by omega⟩ b.2.2 C,by simp,λx f=>by
      rw[jp,js]at f;rcases f with f|rfl
      .have:=b.2.2 x f;omega
      omega⟩
     clear t;go_wp2_with (at_builtin;refine jr iw rfl (.tmp 33) (.tmp 35) rfl Q Q.heap.size rfl W.heap.size s.length c A (aC s) #[k] rfl rfl rfl d (by simp[Value.oneCell']) (by omega) E ?_;intro T U w5 V w l5;have yS:=J V;have X:=J w;clear V w l5)
     have QJ:=J ((Sp.push d (show m<=W.heap.size by omega) X).mk R (by decide));have F:=J (lW S d (ae _) X);have QL:Hid (w5.ownsRow W.heap.size aK 1 (T (s++[(k:Int)]).length U) (s++[(k:Int)]).length (aC (s++[(k:Int)]))):=J (by simpa [aC,cI]using yS.out);go_roundw
     case rel=>exact⟨k+1,s++[(k:Int)],T,U,by omega,by simp,by simp,by simp;omega,QL,j,QJ,F⟩
     case measure=>simp[intOf];omega
    have e0:((y:Int)==0)=false:=by simp;omega
    have KF:=J d;have j:Hid (py G s/\1<=s.length/\∀x∈s,x<((k+1:Nat):Int)):=J ⟨b.1,b.2.1,λx f=>by have:=b.2.2 x f;omega⟩;clear t d;go_wp2_with fail
    go_roundw
    case rel=>exact⟨k+1,s,A,c,by omega,by simp,rfl,v,KF,j,R,S⟩
    case measure=>simp[intOf];omega
   go_wp2_with fail
   go_ret
   exact⟨s,A,c,b.1,b.2.1,rfl,dV B (jW _ _ s (λn I=>In.i64 M (b.1.set.2 n I))) (by simp) (ae _) (by omega),u,z⟩
  go_wp2_with fail
  go_ret
  exact⟨s,A,c,b.1,b.2.1,rfl,dV B (jW _ _ s (λn I=>In.i64 M (b.1.set.2 n I))) (by simp) (ae _) (by omega),u,z⟩
abbrev kl:TypeId:=22
def GS (w:World)(m:Nat)(a:Nat->Value)(b:Int)(G:Nat)(e:Ending)(w':World):Prop:=∃(s:List (List Int)) (A:Option Addr) (c:Nat),li G 2 s/\e=.returned (A s.length c)/\Sl gT 1 w' (TS [aK,kl] w.heap.size w') A s/\Mk w' m a b/\Mv m w w'
theorem jg (m:Nat)(fs:Nat->Value)(lp:Int)(G:Nat)(N:Option Addr)(O:Nat)(h:Mk W m fs lp)(P:fs 1= N G O)(Z:1<=G)(hG:G<=1000):Calls Tryz.prog 119 #[.pointer (m,0),.int .i64 2] W (GS W m fs lp G):=by
 have aa:=h.lt;have H:=J h;have HF:=J P;clear h P;go_enter Tryz.func119,Tryz.ntmps119
 go_wp2_with fail
 refine(aA W m fs lp 3 H (by omega) (by omega)).mono ?_;rintro e w1 ⟨x,hx,rfl,g,j⟩;have H1:=J g;have V1:=J j;clear g j H;go_wp2_with fail
 go_loopw [5,7] (λo i wr=>∃(k:Nat) (s:List (List Int)) (a:List Value) (A:Option Addr) (c:Nat),k<=x/\i=.int .i64 k/\o= A s.length c/\s.length=k/\wr.ownsRow W.heap.size kl 1 (A s.length c) s.length a/\Hid (Fl gT 1 wr (TS [aK] W.heap.size wr) a s)/\Hid (∀r∈s,py G r)/\Hid (Mk wr m fs lp)/\Hid (Mv m W wr)) (λ_ i _=>x - (intOf i).toNat)
 case atStart=>exact⟨0,[],[],none,0,nz _,rfl,rfl,rfl,World.ownsRow_nil _ _ _ _,J Fl.nil,J (by simp),H1,V1⟩
 case round=>
  obtain⟨wa,rfl⟩:∃x,x=wr:=⟨_,rfl⟩
  obtain⟨k,s,a,A,c,hk,rfl,rfl,l,Q,n,R,D,E⟩:=hrel;have S:=J Q;have hz:=E.size;have ab:s.length<=3:=by omega
  have T:=J l;clear Q l;by_cases ac:k<x
  .go_wp2_with fail
   refine(uj wa m fs lp G N O D HF Z hG).mono ?_;rintro e B ⟨r,p,c2,hr,ad,rfl,u,v,b⟩;have F:=Sp.next D b;have d:=F.own S (by decide);have y:=F.V gT.ok (by decide) n;have I:=iD E b;have ak:=I.size;have z:Fl gT 1 B (TS [aK] W.heap.size B) (a++[p r.length c2]) (s++[r]):=y.snoc ⟨p,c2,rfl,u.ts gS.ok (λt h=>h) hz⟩ rfl;have K:=J z;have uB:=J v;have VO:=J I;clear u v b I y z F;go_wp2_with (at_builtin;refine jr LV rfl (.tmp 17) (.tmp 20) rfl B B.heap.size rfl W.heap.size s.length c A a #[p r.length c2] rfl rfl rfl d (by simp[Value.oneCell']) (by omega) ak ?_;intro U V w5 w X l5;have yS:=J w;have Y:=J X;clear w X l5)
   have f:=Sp.push d (show m<=W.heap.size by omega) Y;have QJ:=J (f.mk uB (by decide));have L:=J (lW VO d (ae _) Y);have M:=J (f.V gT.ok (by decide) K);have QL:Hid (w5.ownsRow W.heap.size kl 1 (U (s++[r]).length V) (s++[r]).length (a++[p r.length c2])):=J (by simpa using yS.out);clear f;have KL:Hid (∀q∈s++[r],py G q):=J (λq C=>by
    rw[jp,js]at C;rcases C with C|rfl
    .exact R q C
    exact hr)
   go_roundw
   case rel=>exact⟨k+1,s++[r],a++[p r.length c2],U,V,by omega,by simp,by simp,by simp[T.out],QL,M,KL,QJ,L⟩
   case measure=>simp[intOf];omega
  go_wp2_with fail
  go_ret
  exact⟨s,A,c,⟨R,by have:=T.out;omega⟩,rfl,dV S (n.mono gT.ok (TS.mono (by simp) (ae _))) (by simp) (ae _) (by omega),D,E⟩
section
open Go.Shelf
attribute [local go_sem] Oper.semAt_some
theorem RoundIn.wide {k:Nat}{f:FuncId}{assign body:Code}{R:Ending->World->Prop}(h:RoundIn Fence.wide j P G f a assign body x R):RoundIn (Fence.wide.inRound b) k P G f a assign body x R:=⟨h.1,λc d _=>h.2 c d (λ_ e=>by cases e)⟩
def tL {α:Type}(b:List α->World->Prop)(R:World->World->Prop)(c:List α)(W:World)(e:Ending)(a:World):Prop:=e=.returned (.bool true)/\b c a/\R W a/\KeepsOthers W a
def qd {α:Type}(P:Program)(i:Nat)(j:Array Value)(b:α->Array Value)(V:List α->α->World->Prop)(R:World->World->Prop)(S:List α->Prop)(d:Nat)(w:World):Prop:=
 ∀(l n:Nat) (h:List α->World->Prop) (W:World),d<=n->l<W->Below w w W->OwnFrom W.heap.size h->
  (∀a x c,h a c->V a x c->YieldAt Fence.wide 0 P l (b x) c (tL h R (a++[x]) c))->h [] W->
  CallsIn Fence.wide n P i (#[.func (.yield l) #[] #[]]++j) W λe g=>(∃v,e=.returned v)/\∃f,S f/\h f g
def MA {α:Type}(I:List α->World->Prop)(R:World->World->Prop)(b:List α)(W:World):Exit->Act->World->Prop
 | .normal,_,a=>I b a/\R W a/\KeepsOthers W a
 |_,_,_=>False
theorem Bj {g:Operand}{Z:Array Tmp}{assign body:Code}{Q:Exit->Act->World->Prop}{a:Act}{n gf:Nat}{lb:Array Value}{d:Nat}(hn:d+1<=n)(hg:a.eval g=.func (.func gf) #[] lb)(eg:∀a0 x,(callFunc gf a0).run P x=.ok (.enter gf a0) x){m:α->Array Value}(aa:∀w,(m w).size=Z.size){V:List α->α->World->Prop}{R:World->World->Prop}{S:List α->Prop}(ab:qd P gf lb m V R S d x)(T:∀ {A B C:World},R A B->R B C->R A C)(U:∀(W:World) (l:Nat) (o o':Obj),W.heap[l]?=some o->o.isCells=false->R W (W.putObj l o'))(ac:∀(xs:List α) (w:α) (W:World) (l:Nat) (o o':Obj),V xs w W->W.heap[l]?=some o->o.isCells=false->V xs w (W.putObj l o'))(I:List α->World->Prop)(M:OwnFrom x.heap.size I)(h0:I [] x)(a1:α->Act)(u:∀(l:Nat) (w:α) (W:World) (K:Act->World->Prop),K (a1 w) W->assign.wpIn (Fence.wide.inRound l) 0 P (Exit.then K (λ_ _ _=>False)) {tmps:=(Z.zip (m w)).foldl (λt (p,v)=>t.setIfInBounds p v) a.tmps,defers:=[]} W)(G:∀(l:Nat) (c:List α) (w:α) (W:World),I c W->V c w W->body.wpIn (Fence.wide.inRound l) 0 P (MA I R (c++[w]) W) (a1 w) W)(H:∀(D:Nat) (xs:List α) (W:World),x.heap.size<=D->S xs->I xs W->W.heap[D]?=some (.deferred (some []))->Q .normal {a with defers:= {target:= .collected D,args:= #[]} ::a.defers} W):
  (Code.rangeFunc g Z assign body).wpIn Fence.wide n P Q a x:=by
 refine wpIn_rangeFunc ?_;intro fn ad;obtain⟨f,i⟩:∃f:LoopState->Loop,f=λst=> {state:=st,pending:=none,fn,tmps:=a.tmps,params:=Z,assign,body,defers:=x.heap.size} :=⟨_,rfl⟩
 obtain⟨q,N⟩:∃q,(x.alloc (.deferred (some []))).alloc (.loop (f .ready))=q:=⟨_,rfl⟩
 have aR:q.heap.size=x.heap.size+2:=by rw[<-N];simp
 have ak:q.heap[x.heap.size+1]?=some (.loop (f .ready)):=by have h:=World.alloc_heap_new (x.alloc (.deferred (some []))) (.loop (f .ready));rw[World.size_alloc]at h;rw[<-N];exact h
 have al:q.heap[x.heap.size]?=some (.deferred (some [])):=by rw[<-N];exact(Below.heap_alloc _ _ _ (by simp)).trans (World.alloc_heap_new x _)
 have ao:Below x.heap.size x q:=by rw[<-N];exact((gD _ x).alloc (ae _) _).alloc (by simp) _
 have ap:I [] q:=by rw[<-N];exact M.alloc _ (M.alloc _ h0)
 refine⟨x.heap.size+1,[{target:= .collected x.heap.size,args:= #[]}],q,{target:= .fn (.func gf) lb,args:= #[.func (.yield (x.heap.size+1)) #[] #[]]},q,gf,#[.func (.yield (x.heap.size+1)) #[] #[]]++lb,q,?_,?_,?_,?_,λ_=>by omega,?_⟩
 .rw[<-N,i];exact run_enterLoop_outer _ _ _ _ _
 .simp only[resolve,hg];simp[go_sem]
 .intro f' _;trivial
 .simp[invoke,go_sem,eg]
 have aq:OwnFrom q.heap.size (λc W=>I c W/\W.heap[x.heap.size+1]?=some (.loop (f .ready))/\W.heap[x.heap.size]?=some (.deferred (some []))):=by
  intro s A B ar hs X hr;have F:∀k,k<x.heap.size+2->∀o,A.heap[k]?=some o->B.heap[k]?=some o:=λk hk o ho=>(X.block k (mq.1 ho).1 (λe=>by have:=(hr k e.symm).1;omega)).trans ho
  exact⟨M s A B ar hs.1 X (λr e=>⟨by have:=(hr r e).1;omega,(hr r e).2⟩),F _ (by omega) _ hs.2.1,F _ (by omega) _ hs.2.2⟩
 refine(ab (x.heap.size+1) (n - 1) _ q (by omega) (by omega) ao aq ?_ ⟨ap,ak,al⟩).mono ?_
 .rintro c w W ⟨hi,y,hd⟩ av;have aw:=(mq.1 y).1;have hy:=run_yield (P:=P) (args:=m w) y (by rw[i];exact aa w);rw[i]at hy;refine⟨fn,_,assign,body,hy,roundIn_of_wpIn ad (u _ w W _ ⟨_,run_beginRound y (by rw[i]),?_⟩)⟩;have ay:(W.putObj (x.heap.size+1) (.loop {f .ready with state:= .busy})).heap[x.heap.size+1]?=some (.loop {f .ready with state:= .busy}):=World.putObj_heap_same aw;have aD:(W.putObj (x.heap.size+1) (.loop {f .ready with state:= .busy})).heap[x.heap.size]?=some (.deferred (some [])):=(World.putObj_heap_other (by omega)).trans hd;have aE:R W (W.putObj (x.heap.size+1) (.loop {f .ready with state:= .busy})):=U _ _ _ _ y rfl;refine wpIn_mono (G _ c w _ (M.putObj _ hi (by omega) y rfl) (ac _ _ _ _ _ _ av y rfl)) ?_;rintro e a3 W3 O;cases e with
  |normal=>
   obtain⟨aL,aM,z⟩:=O;have E:=z.same _ _ ay rfl;have aN:=z.same _ _ aD rfl;have b:=run_endRound (P:=P) none E;have aW:({{f .ready with state:= .busy}with state:=if(none:Option Code).isNone then LoopState.ready else .done,pending:=none} :Loop)=f .ready:=by rw[i];rfl
   rw[aW]at b;have Y:(W3.putObj (x.heap.size+1) (.loop (f .ready))).heap[x.heap.size+1]?=some (.loop (f .ready)):=World.putObj_heap_same (mq.1 E).1;refine⟨_,_,b,rfl,⟨M.putObj _ aL (by omega) E rfl,Y,(World.putObj_heap_other (by omega)).trans aN⟩,T (T aE aM) (U _ _ _ _ E rfl),?_,λj o hj ho=> ?_⟩
   .have h1:=z.size;simp at h1 ⊢;exact h1
   by_cases L:j=x.heap.size+1
   .subst L;rw[y]at hj;cases hj;exact Y
   exact(World.putObj_heap_other L).trans (z.same j o ((World.putObj_heap_other L).trans hj) ho)
  |ret=>exact O.elim
  |exit id=>exact O.elim
  |goto t=>exact O.elim
  |panic ch=>exact O.elim
  |outgrown=>exact O.elim
 rintro e W2 ⟨⟨v,rfl⟩,xs,hS,hi,y,hd⟩;have b:=run_endLoop (P:=P) y (by rw[i];simp);have aQ:(f .ready).pending=none:=by rw[i]
 rw[aQ]at b;refine⟨none,_,b,?_⟩;exact H _ xs _ (ae _) hS (M.putObj _ hi (by omega) y rfl) ((World.putObj_heap_other (by omega)).trans hd)
structure KC (w w':World):Prop where
 same:∀(b:Nat) (cs:Array Value) (t:TypeId) (fz:Nat×Nat),w.heap[b]?=some (.cells cs t fz)->t≠5->t≠108->w'.heap[b]?=some (.cells cs t fz)
 size:w.heap.size<=w'
theorem KC.trans {b c:World}(h:KC x b)(k:KC b c):KC x c:=⟨λa d t e i f g=>k.same a d t e (h.same a d t e i f g) f g,nt h.size k.size⟩
theorem KC.put (l:Nat)(o d:Obj)(h:W.heap[l]?=some o)(e:o.isCells=false):KC W (W.putObj l d):=by
 refine⟨λb f t g a _ _=> ?_,by simp⟩;have c:b≠l:=by rintro rfl;rw[h]at a;cases a;cases e
 exact(World.putObj_heap_other c).trans a
theorem KP.kc {w':World}(h:KP x w'):KC x w':=⟨λb e t f a c d=>h.same b _ a ⟨c,d⟩,h.size⟩
theorem KP.sL {w':World}(h:KP x w'):KeepsOthers x w':=⟨h.size,λk o a b=>h.same k o a (by cases o<;>first|trivial|cases b)⟩
theorem KC.bk {w':World}(h:KC x w'){t:TypeId}(d:Bk x G t a)(b:t≠5)(c:t≠108):Bk w' G t a:=h.same G a t (0,0) d b c
abbrev ER:=Nat×Nat×Nat×Nat
def X9 (x:ER):Array Value:= #[.int .i64 (x.1:Int),.slice (x.2.2.2,x.2.1*3) (x.2.2.1+1 - x.2.1) (x.2.2.1+1 - x.2.1)]
def Lp (g:Nat)(l:List (Nat×Nat×Nat)):List ER:=l.map (λp=>(p.1,p.2.1,p.2.2,g))
def VC (n:Nat)(c:List Value)(b:List Int)(a:List ER)(x:ER)(W:World):Prop:=a++[x]<+:Lp x.2.2.2 (qV n 0 0 b)/\x.2.1<=x.2.2.1/\x.2.2.1<n/\i7 W 196 (x.2.2.2,0) n 3 c
def SC (n:Nat)(a:List Int)(b:List ER):Prop:=∃g,b=Lp g (qV n 0 0 a)
theorem VC.putObj (n:Nat)(f:List Value)(a:List Int)(g:List ER)(x:ER)(W:World)(l:Nat)(o b:Obj)(h:VC n f a g x W)(c:W.heap[l]?=some o)(d:o.isCells=false):VC n f a g x (W.putObj l b):=⟨h.1,h.2.1,h.2.2.1,h.2.2.2.other (grownBy_putObj' W l b) (λr e=>by cases e;exact⟨o,c,d⟩)⟩
theorem RoundIn.any {k:Nat}{f:FuncId}{assign body:Code}{R:Ending->World->Prop}(h:RoundIn Fence.wide j P G f a assign body x R):RoundIn Fence.wide k P G f a assign body x R:=⟨h.1,λc b _=>h.2 c b (λ_ d=>by cases d)⟩
abbrev OO:=Nat×Nat×Nat
def Ya (b o:Nat)(x:OO):Array Value:= #[.int .i64 (x.1:Int),.slice (b,o+x.2.1*3) (x.2.2+1 - x.2.1) (x.2.2+1 - x.2.1)]
def VP (a:Nat)(c:List Int)(b:List OO)(x:OO)(_:World):Prop:=b++[x]<+:qV a 0 0 c/\x.2.1<=x.2.2/\x.2.2<a
def SP (a:Nat)(b:List Int)(c:List OO):Prop:=c=qV a 0 0 b
theorem KC.rS {w':World}(h:KC x w'){t:TypeId}{n k:Nat}(c:i7 x t A n k D)(d:t≠5)(f:t≠108):i7 w' t A n k D:=
 ⟨c.1,λg=>by
  obtain⟨b,o,a,e,i,j⟩:=c.2 g;exact⟨b,o,a,e,h.bk i d f,j⟩⟩
theorem KC.refl (w:World):KC w w:=(KP.refl w).kc
theorem KC.below {w w':World}(h:Below w w w'):KC w w':=(KP.below h).kc
theorem Ud (be G b o a p m d:Nat)(A E:Option Addr)(r:List Int)(z:Bk W be 22 #[E m d])(B:Bk W G 44 #[A a p])(Q:i7 W 3 E m 1 (aC r))(H:0<a->A=(b,o))(R:a<=p)(S:p<=9223372036854775807)(hm:m<=9223372036854775807):
  qd Tryz.prog 146 #[.pointer (be,0),.pointer (G,0)] (Ya b o) (VP a r) KC (SP a r) 8 W:=by
 intro l n ak w Y _ T _ U Z;have s:=KC.below T;have C:=s.bk z (by decide) (by decide);have I:=s.bk B (by decide) (by decide);have D:=s.rS Q (by decide) (by decide);have t:=D.rd.vB;have K:=J t;clear t z B Q T s;have HY:=J U;clear U;have c0:w.cell? (be,0)=some (E m d):=C.cell 0;refine callsIn_of_wp Tryz.func146 rfl trivial ?_ rfl;simp only[Tryz.ntmps146,List.size_toArray,aV,ln,Nat.reduceAdd,Nat.reduceSub,Array.replicate_succ,Array.replicate_zero,List.push_toArray,List.append_toArray,pG,nw]
 gi_wp2
 gi_loopw [4,9] (λf i wr=>∃(k q:Nat) (c:List OO),k<=m/\q<=a/\i=.int .i64 k/\f=.int .i64 q/\ak c wr/\KC w wr/\Hid (c++qV a k q (r.drop k)=qV a 0 0 r))
  (λ_ i _=>m - (intOf i).toNat)
 case atStart=>exact⟨0,0,[],by omega,by omega,rfl,rfl,Z,KC.refl _,rfl⟩
 case round=>
  obtain⟨k,q,c,hk,hq,rfl,rfl,u,v,h⟩:=hrel;have aa:wr.cell? (be,0)=some (E m d):=(v.bk C (by decide) (by decide)).cell 0;have ab:wr.cell? (G,0)=some (A a p):=(v.bk I (by decide) (by decide)).cell 0;clear c0;by_cases L:k<m
  .obtain⟨ac,bo,e,rfl,-,he,ad⟩:=(v.rS D (by decide) (by decide)).rd.uq L;have g:Hid (r.drop k=e::r.drop (k+1)):=by obtain⟨h1,h2⟩:=ll.1 he;have:=List.drop_eq_getElem_cons h1;rw[h2]at this;exact this
   by_cases x:e<(q:Int)
   .have hd:decide (e<(q:Int))=true:=by simp[x]
    gi_wp2
    refine bodyPost_ret (results_none rfl _ _ _) rfl ?_;refine⟨⟨_,rfl⟩,c,?_,u⟩;have:=h.out;rw[g.out,qV,if_neg (by omega)]at this;show _=_;simpa using this
   have hd:decide (e<(q:Int))=false:=by simp;omega
   by_cases M:(a:Int)<=e
   .gi_wp2
    refine bodyPost_ret (results_none rfl _ _ _) rfl ?_;refine⟨⟨_,rfl⟩,c,?_,u⟩;have:=h.out;rw[g.out,qV,if_neg (by omega)]at this;show _=_;simpa using this
   obtain⟨y,rfl⟩:∃y:Nat,e=y:=⟨e.toNat,by omega⟩
   have N:q<=y:=by omega
   have t:y<a:=by omega
   obtain rfl:=H (by omega);have j:Hid ((c++[((k,q,y):OO)])++qV a (k+1) (y+1) (r.drop (k+1))=qV a 0 0 r):=by have:=h.out;rw[g.out,qV,if_pos (by omega)]at this;show _=_;simpa using this
   obtain⟨fn,V,F,X,hy,hR⟩:=HY c (k,q,y) wr u ⟨⟨_,j⟩,N,t⟩;simp only[Ya]at hy;clear x M
   gi_wp2
   refine⟨λ_=>nt (by decide) Y,?_⟩;refine(RoundIn.any hR).mono ?_;rintro e W3 ⟨rfl,O,P,-⟩
   gi_wp2
   go_roundw
   case rel=>exact⟨k+1,y+1,_,by omega,by omega,by go_num,by go_num,O,v.trans P,j⟩
   case measure=>simp[intOf];omega
  gi_wp2
  go_end0
  refine⟨⟨_,rfl⟩,c,?_,u⟩;have:=h.out;rw[sj (by have:=K.out;omega)]at this;show _=_;simpa [qV]using this
