/- Lemmas. -/
import Derived.Test.YtalehhjjbadlpaaGreatDoorX13
set_option linter.all false
set_option maxRecDepth 100000
set_option maxHeartbeats 32000000
namespace Go.Proofs.YtalehhjjbadlpaaGreatDoor
open Go.RowKit
variable{v:World}{d f b:Nat}{g:Gl}
theorem iS.Ca {w':World}{p c:Nat}{r:mA}{e:Ending}(h:iS v.drew d p c f g b r e w'):iS v d p c f g b r e w':=by
 obtain⟨a,w⟩:=h;refine⟨⟨a.os,a.tape,a.output,a.size,a.block⟩,?_⟩;cases r with
 |ok s=>exact⟨w.1,⟨w.2.1.same,w.2.1.size⟩,w.2.2⟩
 |error e=>exact w
theorem iS.ret {w':World}{p:Nat}{K:Nat}{r:mA}{e:Ending}(h:iS v d p b f g K r e w'):∃w:Int,e=.returned (.int .i64 w):=by
 obtain⟨c,a⟩:=h;cases r with
 |ok s=>exact⟨0,a.1⟩
 |error e=>exact⟨e,a⟩
theorem rQ (F:Nat)(H:∀(S:Array Value) (w:World),(callFunc F S).run Tryz.prog w=.ok (.enter F S) w)(w:World)(T p k U:Nat)(V:Gl)(s:PS)(W:Rows)(K q:Nat)(A:Option Addr)(n c c1 c2:Nat)(r:mA)
  (h:ie w T p k U V s W K) (I:w.cell? (c1,0)=some (.pointer (p,0))) (N:w.cell? (c2,0)=some (.func (.func F) #[.pointer (p,0)] #[])) (l:s.f.ga=[]->r=.error 22)
  (m:∀R g,s.f.ga=R++[g]->∀G x y,(W 0).v=.slice (some ⟨G,0,none⟩) x y->Calls Tryz.prog F #[.pointer (p,0),A n c,.pointer (some ⟨G,R.length*9,none⟩)] w.drew (iS w.drew T p k U V q r)) (L:K<=10000000000):
  Calls Tryz.prog 97 #[A n c,.pointer (c1,0),.pointer (c2,0)] w (iS w T p k U V q r):=by
 have j:=h.i 0 (by decide);have t:w.cell? (p,1)=some (W 0).v:=h.par.cell 1;have a:=h.D.p.1;rcases List.eq_nil_or_concat s.f.ga with d|⟨R,g,d⟩
 .obtain⟨M,z,B⟩:=h.slice (i:=0) (by decide);rw[d]at a;rw[B,a]at t;have C:=J (l d);clear h l m d a j;go_enter Tryz.func97,Tryz.ntmps97
  go_wp2_with fail
  go_ret
  exact iS.bad C (gD _ _)
 rw[List.concat_eq_append]at d;obtain⟨G,z,O,u,-,-,D,-⟩:=h.sr d;have E:=J (m R g d _ _ _ u);rw[u]at t;rw[d]at a;have hi:R.length+1<=10000000000:=by rw[la]at a;simp only[aV,ln]at a;omega
 clear h l m d a j;go_enter Tryz.func97,Tryz.ntmps97
 go_wp2_with fail
 go_region_with (refine E.mono ?_;rintro e P b;obtain⟨Q,rfl⟩:=b.ret;have o:=J b;clear b)
 all_goals
  go_wp2;go_ret
  exact o.Ca
theorem TQ (F:Nat)(H:∀(S:Array Value) (w:World),(callFunc F S).run Tryz.prog w=.ok (.enter F S) w)(w:World)(T p k U:Nat)(V:Gl)(s:PS)(W:Rows)(K q:Nat)(A:Option Addr)(n c c1 c2:Nat)(r:mA)
  (h:ie w T p k U V s W K) (I:w.cell? (c1,0)=some (.pointer (p,0))) (N:w.cell? (c2,0)=some (.func (.func F) #[.pointer (p,0)] #[])) (l:s.f.ge=[]->r=.error 22)
  (m:∀R g,s.f.ge=R++[g]->∀G x y,(W 2).v=.slice (some ⟨G,0,none⟩) x y->Calls Tryz.prog F #[.pointer (p,0),A n c,.pointer (some ⟨G,R.length*3,none⟩)] w.drew (iS w.drew T p k U V q r)) (L:K<=10000000000):
  Calls Tryz.prog 101 #[A n c,.pointer (c1,0),.pointer (c2,0)] w (iS w T p k U V q r):=by
 have j:=h.i 2 (by decide);have t:w.cell? (p,3)=some (W 2).v:=h.par.cell 3;have a:=h.D.u.1;rcases List.eq_nil_or_concat s.f.ge with d|⟨R,g,d⟩
 .obtain⟨M,z,B⟩:=h.slice (i:=2) (by decide);rw[d]at a;rw[B,a]at t;have C:=J (l d);clear h l m d a j;go_enter Tryz.func101,Tryz.ntmps101
  go_wp2_with fail
  go_ret
  exact iS.bad C (gD _ _)
 rw[List.concat_eq_append]at d;obtain⟨G,z,O,u,-,-,D,-⟩:=h.Bw d;have E:=J (m R g d _ _ _ u);rw[u]at t;rw[d]at a;have hi:R.length+1<=10000000000:=by rw[la]at a;simp only[aV,ln]at a;omega
 clear h l m d a j;go_enter Tryz.func101,Tryz.ntmps101
 go_wp2_with fail
 go_region_with (refine E.mono ?_;rintro e P b;obtain⟨Q,rfl⟩:=b.ret;have o:=J b;clear b)
 all_goals
  go_wp2;go_ret
  exact o.Ca
section
attribute [-go_sem] Builtin.append_
theorem goT (b:Bool)(row:List P3)(a:List (List P3))(f:List P3):fP b (af row) (a.map af) (af f)=(dM b row a f).map (List.map af):=by
 induction f generalizing b row a with
 |nil=>show fP b (af row) (a.map af) []=_;rw[fP,dM];cases b<;>rfl
 |cons w r c=>
  show fP b (af row) (a.map af) (w.2.2::af r)=_;rw[fP,dM];by_cases d:w.2.2=[91]
  .rw[if_pos d,if_pos d];cases b
   .exact c true [] a
   rfl
  rw[if_neg d,if_neg d];by_cases e:w.2.2=[93]
  .rw[if_pos e,if_pos e];cases b
   .rfl
   have:=c false [] (a++[row]);rw[ra]at this;exact this
  rw[if_neg e,if_neg e];cases b
  .have:=c false [] (a++[[w]]);rw[ra]at this;exact this
  have:=c true (row++[w]) a;rw[show af (row++[w])=af row++[w.2.2] by simp[af]]at this;exact this
theorem oP (a:List P3):fK (af a)=(jK a).map (List.map af):=goT false [] [] a
theorem FX (e:Bool)(row:List P3)(a:List (List P3))(m:List P3)(b:List (List P3))(h:dM e row a m=some b):b.length<=a.length+m.length/\∀r∈b,r∈a\/r.length<=row.length+m.length:=by
 induction m generalizing e row a with
 |nil=>
  rw[dM]at h;cases e
  .cases h;exact⟨by simp,λr l=> .inl l⟩
  cases h
 |cons w r i=>
  rw[dM]at h;by_cases j:w.2.2=[91]
  .rw[if_pos j]at h;cases e
   .obtain⟨f,c⟩:=i true [] a h;refine⟨by simp only[aV];omega,λx d=>(c x d).imp id λg=> ?_⟩;simp only[aV,ln]at g ⊢;omega
   cases h
  rw[if_neg j]at h;by_cases k:w.2.2=[93]
  .rw[if_pos k]at h;cases e
   .cases h
   obtain⟨f,c⟩:=i false [] (a++[row]) h;refine⟨by simp only[aV,la,ln]at f ⊢;omega,λx d=> ?_⟩;rcases c x d with g|g
   .rcases jp.1 g with g|g
    .exact .inl g
    simp only[js]at g;subst g;exact .inr (by omega)
   exact .inr (by simp only[aV,ln]at g ⊢;omega)
  rw[if_neg k]at h;cases e
  .obtain⟨f,c⟩:=i false [] (a++[[w]]) h;refine⟨by simp only[aV,la,ln]at f ⊢;omega,λx d=> ?_⟩;rcases c x d with g|g
   .rcases jp.1 g with g|g
    .exact .inl g
    simp only[js]at g;subst g;exact .inr (by simp only[aV,ln];omega)
   exact .inr (by simp only[aV,ln]at g ⊢;omega)
  obtain⟨f,c⟩:=i true (row++[w]) a h;refine⟨by simp only[aV];omega,λx d=>(c x d).imp id λg=> ?_⟩;simp only[aV,la,ln]at g ⊢;omega
theorem yK {e:List P3}{a:List (List P3)}(h:jK e=some a):a.length<=e.length/\∀r∈a,r.length<=e.length:=by obtain⟨b,c⟩:=FX _ _ _ _ _ h;exact⟨by simpa using b,λr d=>(c r d).elim (λg=>by simp at g) (λg=>by simpa using g)⟩
theorem MI (gl:Gl)(b:List (B×List Int))(a:Int)(he:a≠0)(c:List Int)(l:List B):(bC gl b a c l).1=a:=by
 cases l with
 |nil=>rfl
 |cons t r=>
  have h:(iZ gl b a c t).1=a:=by
   unfold iZ;split
   .split
    .rfl
    show eC a 23=a;unfold eC;rw[if_neg he]
   show kV gl a t=a;unfold kV;rw[if_neg (by intro h;exact he h.1)]
  rw[bC,if_pos (by rw[h];exact he)];exact h
theorem SJ (gl:Gl)(a:List (B×List Int))(b:List Int)(t:B):(∃e,pR gl a t=.error e/\e≠0/\(iZ gl a 0 b t).1=e)\/(∃c,pR gl a t=.ok c/\iZ gl a 0 b t=(0,b++c)):=by
 unfold iZ;rcases Rf t with⟨r,d,f,g⟩|⟨d,f,g⟩
 .rw[g,f];subst d;show(∃e,pR gl a (64::r)=_/\_)\/_;have h:pR gl a (64::r)=match a.lookup r with|some c=> .ok c|none=> .error 23:=rfl
  rw[h];cases a.lookup r with
  |none=>exact .inl ⟨23,rfl,by decide,rfl⟩
  |some c=>exact .inr ⟨c,rfl,rfl⟩
 rw[f,d];have h:pR gl a t=match gl.lookup t with|some n=> .ok [(n:Int)]|none=> .error 23:=by
  unfold pR;split
  .rename_i r;exact absurd rfl (g r)
  rfl
 rw[h];simp only[Bool.false_eq_true,if_false];unfold kV gX;cases gl.lookup t with
 |none=>exact .inl ⟨23,rfl,by decide,rfl⟩
 |some n=>exact .inr ⟨[(n:Int)],rfl,rfl⟩
theorem Gq (gl:Gl)(b:List (B×List Int))(a:List Int)(l:List B)(j:a.length<=1000):(∃e,qH gl b a l=.error e/\e≠0/\(bC gl b 0 a l).1=e)\/(∃g,qH gl b a l=.ok g/\bC gl b 0 a l=(0,g)/\g.length<=1000):=by
 induction l generalizing a with
 |nil=>exact .inr ⟨a,rfl,rfl,j⟩
 |cons t r k=>
  rcases SJ gl b a t with⟨e,f,d,i⟩|⟨c,f,d⟩
  .refine .inl ⟨e,by rw[qH,f],d,?_⟩;rw[bC,if_pos (by rw[i];exact d)];exact i
  rw[qH,f];by_cases h:1000<(a++c).length
  .refine .inl ⟨2,by simp only[if_pos h],by decide,?_⟩;rw[JW d h]
  simp only[if_neg h];rw[Uy d (by omega)];exact k (a++c) (by omega)
section
variable {w w':World} {Bd p gm cm:Nat} {gl:Gl} {s:PS} {rv:Rows} {K:Nat}
theorem ie.ary (h:ie w Bd p gm cm gl s rv K){t:B}{l:List Int}{A:Option Addr}{c:Nat}(d:Sl gS 1 w (Fz w rv) A l)(o:l.length<=2000)(q:s.ia.lookup t=none){f:B->Option Value}
  (r:∀t,(s.ia.lookup t=none/\f t=none)\/∃l A c,s.ia.lookup t=some l/\f t=some (.slice A l.length c)/\Sl gS 1 w (Fz w rv) A l/\l.length<=2000)
  (u:j9 oJ w' cm (λi=>if i=t then some (.slice A l.length c)else f i)) (a:w.grownBy w' (some cm)):
  ie w' Bd p gm cm gl {s with ia:=s.ia++[(t,l)]} rv K/\KQ cm w w'/\Below Bd w w':=by
 obtain⟨f0,j,N⟩:=h.ia;have b:∀g,some cm=some g->∀t v,Bk w g t v->nM t=false:=λg e i y z=>by
  injection e with e
  subst e;exact(j.rp z).elim
 have k:Tr w rv w' rv:=Tr.other a b;refine⟨{par:=h.par.keep (a.block p h.par.lt λe=> ?_),live:=h.live.other a b,D:=h.D.tr k,r:=h.r.grown a λe=> ?_,m:=h.m,ia:=⟨_,u,λx=> ?_⟩,i:=h.i,low:=h.low},KQ.row a λg e=> ?_,(gD Bd w).grown a h.size (λg e=> ?_)⟩
 .injection e with e
  subst e;exact j.rp h.par
 .injection e with e
  exact h.low.2.2.2 e
 .show((s.ia++[(t,l)]).lookup x=none/\_)\/_;rw[List.lookup_append];by_cases m:x=t
  .subst m;refine .inr ⟨l,A,c,?_,if_pos rfl,k.sl gS.ok d,o⟩;rw[q];simp
  rw[if_neg m];have n:(x==t)=false:=by simpa using m
  have C:([(t,l)]:List (B×List Int)).lookup x=none:=by simp[List.lookup,n]
  rw[C,Option.or_none];rcases r x with g|⟨D,E,F,G,H,I,Q⟩
  .exact .inl g
  exact .inr ⟨D,E,F,G,H,k.sl gS.ok I,Q⟩
 .injection e with e
  subst e;obtain⟨O,P,L⟩:=j.isMap;exact⟨_,L,λM=>M rfl⟩
 injection e with e
 subst e;exact h.low.2.2.1
end
theorem Jl (gl:Gl)(s:PS)(a:B)(r:List B)(h:∀row,fK r≠some [row]):mV gl s (a::r)=.error 22:=by
 show(match fK r with|some [row]=>_|_=>_)=_;split
 .rename_i row he;exact absurd he (h row)
 rfl
theorem Jm (gl:Gl)(s:PS)(a:B)(r row:List B)(h:fK r=some [row]):mV gl s (a::r)=if bQ 0 a≠0 then .error (bQ 0 a)else match qH gl s.ia [] row with
   | .error e=> .error e
   | .ok g=>if(s.ia.lookup a).isSome then .error 24 else .ok {s with ia:=s.ia++[(a,g)]} :=by
 show(match fK r with|some [row]=>_|_=>_)=_;rw[h];rfl
theorem Y3 (gl:Gl)(s:PS)(a:B)(r row:List B)(h:fK r=some [row])(he:(bC gl s.ia (bQ 0 a) [] row).1≠0):mV gl s (a::r)=.error (bC gl s.ia (bQ 0 a) [] row).1:=by
 rw[Jm gl s a r row h];by_cases b:bQ 0 a=0
 .rw[b]at he ⊢;rw[if_neg (by simp)];rcases Gq gl s.ia [] row (by simp)with⟨e,c,d,f⟩|⟨g,c,d,f⟩
  .rw[c,f]
  rw[d]at he;exact absurd rfl he
 rw[if_pos b,MI _ _ _ b]
theorem Ct (gl:Gl)(s:PS)(a:B)(r row:List B)(h:fK r=some [row])(he:(bC gl s.ia (bQ 0 a) [] row).1=0):mV gl s (a::r)=(if(s.ia.lookup a).isSome then .error 24 else .ok {s with ia:=s.ia++[(a,(bC gl s.ia (bQ 0 a) [] row).2)]})/\(bC gl s.ia (bQ 0 a) [] row).2.length<=1000:=by
 rw[Jm gl s a r row h];by_cases b:bQ 0 a=0
 .rw[b]at he ⊢;rw[if_neg (by simp)];rcases Gq gl s.ia [] row (by simp)with⟨e,f,c,d⟩|⟨g,f,c,d⟩
  .exact absurd (d.symm.trans he) c
  rw[f,c];exact⟨rfl,d⟩
 rw[MI _ _ _ b]at he;exact absurd he b
theorem Xh (gl:Gl)(e:List (B×List Int))(j:∀t n,gl.lookup t=some n->n<=1000000000)(k:∀t l,e.lookup t=some l->∀x∈l,gN x)(b:Int)(a:List Int)(d:∀x∈a,gN x)(l:List B):∀x∈(bC gl e b a l).2,gN x:=by
 have f:∀b a t,(∀x∈a,gN x)->∀x∈(iZ gl e b a t).2,gN x:=by
  intro b a t d;unfold iZ;split
  .split
   .rename_i c g;intro x i;rcases jp.1 i with h|h
    .exact d x h
    exact k _ _ g x h
   exact d
  intro x i;rcases jp.1 i with h|h
  .exact d x h
  simp only[js]at h;subst h;exact Il j t
 induction l generalizing b a with
 |nil=>exact d
 |cons t r m=>
  rw[bC];split
  .exact f b a t d
  split
  .exact f b a t d
  exact m _ _ (f b a t d)
theorem Sl.ints {S:Bs}{A:Option Addr}{l:List Int}(h:Sl gS 1 v S A l):∀x∈l,gN x:=by intro x d;obtain⟨k,c⟩:=pn.1 d;obtain⟨b,o,e,_,_,a,_,hi⟩:=h.int (ll.1 c).1;have:=a.out;rw[c]at this;cases this;exact hi
theorem ie.BW {p:Nat}{s:PS}{rv:Rows}{K:Nat}(h:ie v d p f b g s rv K):∀t l,s.ia.lookup t=some l->∀x∈l,gN x:=by
 intro t l a;obtain⟨gm,i,cm⟩:=h.ia;rcases cm t with⟨gl,_⟩|⟨j,A,c,w,k,e,m⟩
 .rw[gl]at a;cases a
 rw[w]at a;cases a;exact e.ints
end
abbrev ZM (lo hi:Nat)(w w':World):Prop:=∀b,lo<=b->b<hi->w'.heap[b]?=w.heap[b]?
structure ly (lo hi:Nat)(P:World->Prop)(w:World):Prop where
 now:P w
 keep:∀w w',P w->ZM lo hi w w'->P w'
 im:hi<=w.heap.size
section
variable {lo hi:Nat} {P Q:World->Prop} {w w':World} {m:Nat}
theorem ly.step (h:ly lo hi P w)(a:w.heap.size<=w')(he:ZM lo hi w w'):ly lo hi P w':=⟨h.keep _ _ h.now he,h.keep,nt h.im a⟩
theorem ly.row {row:Option Nat}(h:ly lo hi P w)(a:w.grownBy w' row)(c:∀x,row=some x->x<lo\/hi<=x):ly lo hi P w':=h.step a.size λb d f=>a.block b (by have:=h.im;omega) (λe=>by have:=c b e.symm;omega)
theorem ly.next (h:ly lo hi P w)(c:m<lo)(b:Mv m w w'):ly lo hi P w':=h.row b (λx a=>by injection a with a;exact .inl (by omega))
theorem ly.below (h:ly lo hi P w)(a:Below w w w'):ly lo hi P w':=h.row (az a none) (λx b=>by cases b)
theorem ly.drew (h:ly lo hi P w):ly lo hi P w.drew:=h.below (gD _ _).drew
theorem ly.put (h:ly lo hi P w){g:Nat}(b:g<lo\/hi<=g)(j:Nat)(u:Value):ly lo hi P (w.setCell (g,j) u):=h.row (aX (World.grownBy.refl w (some g)) (.inl rfl) u) (λx a=>by injection a with a;rw[<-a];exact b)
theorem ly.push {f n s:Nat}{e:TypeId}{v:Value}{g:List Value}(h:ly lo hi P w)(a:w.ownsRow f e s v n g)(b:hi<=f)(c:w.grownBy w' v.ownBlock):ly lo hi P w':=h.row c (λx d=> .inr (nt b (a.lt x d).1))
theorem ly.wide (h:ly lo hi P w){c k:Nat}(f:c<=lo)(g:hi<=k)(d:k<=w):ly c k P w:=⟨h.now,λa b e he=>h.keep a b e (λx i j=>he x (by omega) (by omega)),d⟩
theorem ly.and (h:ly lo hi P w)(k:ly lo hi Q w):ly lo hi (λw=>P w/\Q w) w:=⟨⟨h.now,k.now⟩,λa b c he=>⟨h.keep a b c.1 he,k.keep a b c.2 he⟩,h.im⟩
theorem ly.true (h:hi<=w):ly lo hi (λ_=>True) w:=⟨trivial,λ_ _ _ _=>trivial,h⟩
theorem ly.map (h:ly lo hi P w)(a:∀w,P w->Q w)(b:∀w w',Q w->ZM lo hi w w'->Q w'):ly lo hi Q w:=⟨a w h.now,b,h.im⟩
theorem TR.xL {ts:List TypeId}(he:ZM lo hi w w'):Same (TR ts lo hi w) w w'/\∀b,TR ts lo hi w b->TR ts lo hi w' b:=by
 have a:∀b,TR ts lo hi w b->w'.heap[b]?=w.heap[b]? :=λb c=>he b c.1.1 c.1.2
 exact⟨a,λb c=>by
  obtain⟨d,cs,t,e,f⟩:=c;exact⟨d,cs,t,(a b ⟨d,cs,t,e,f⟩).trans e,f⟩⟩
variable {α:Type} {R:Rel α} {size:Nat} {ts:List TypeId} {A:Option Addr} {xs:List α} {cs:List Value}
theorem ly.sl (a:R.Ok)(h:Sl R size w (TR ts lo hi w) A xs)(b:hi<=w.heap.size):ly lo hi (λw=>Sl R size w (TR ts lo hi w) A xs) w:=⟨h,λ_ _ c he=>c.C a (TR.xL he),b⟩
theorem ly.V (a:R.Ok)(h:Fl R size w (TR ts lo hi w) cs xs)(b:hi<=w.heap.size):ly lo hi (λw=>Fl R size w (TR ts lo hi w) cs xs) w:=⟨h,λ_ _ c he=>c.C a (TR.xL he),b⟩
theorem TR.sub {k:List TypeId}{a c:Nat}(h:∀t∈ts,t∈k)(f:a<=lo)(g:hi<=c):∀b,TR ts lo hi w b->TR k a c w b:=λb ⟨⟨i,j⟩,cs,t,d,e⟩=>⟨⟨by omega,by omega⟩,cs,t,d,h t e⟩
theorem TR.lw:∀b,TR ts lo hi w b->b<w.heap.size:=λb ⟨_,_,_,h,_⟩=>h.lt
theorem TR.sB {c:Nat}(h:lo<=c):∀b,TS ts c w b->TR ts lo w.heap.size w b:=λb a=>⟨⟨nt h a.1,TS.lt b a⟩,a.2⟩
theorem Cf {e:TypeId}{k n c:Nat}(h:w.ownsRow k e size (A n c) n cs)(i:Fl R size w (TR ts lo w.heap.size w) cs xs)(he:e∈ts)(j:lo<=k)(a:0<size):Sl R size w (TR ts lo w.heap.size w) A xs:=
 Sl.pk h i (λg d=>by
  obtain⟨b,f⟩:=iI h g d;exact⟨⟨by have:=(h.lt g d).1;omega,f.lt⟩,b,e,f,he⟩) a
end
structure sb (m:Nat)(row:Option Nat)(w w':World):Prop where
 os:w'.os=w.os
 tape:w'.tape=w.tape
 output:w'.output=w.output
 size:w.heap.size<=w'.heap.size
 block:∀i,i<w.heap.size->i≠m->row≠some i->w'.heap[i]?=w.heap[i]?
section
variable {m:Nat} {row:Option Nat} {w w' w2:World}
theorem Mv.two (h:Mv m w w'):sb m row w w':=⟨h.os,h.tape,h.output,h.size,λi a b _=>h.block i a (λe=>by injection e with e;exact b e)⟩
theorem sb.step {r:Option Nat}(h:sb m row w w')(a:w'.grownBy w2 r)(f:∀x,r=some x->w.heap.size<=x\/x=m\/row=some x):sb m row w w2:=
 ⟨a.os.trans h.os,a.tape.trans h.tape,a.output.trans h.output,nt h.size a.size,λi b c d=>(a.block i (mz b h.size) (λe=>by
  rcases f i e.symm with h4|h4|h4
  .omega
  .exact c h4
  exact d h4)).trans (h.block i b c d)⟩
theorem sb.fz {lo hi:Nat}{P:World->Prop}(h:sb m row w w')(c:m<lo)(a:∀x,row=some x->hi<=x)(k:ly lo hi P w):ly lo hi P w':=k.step h.size λb d f=>h.block b (by have:=k.im;omega) (by omega) (λe=>by have:=a b e;omega)
end
section
variable {w:World} {m:Nat} {fs:Nat->Value} {lp:Int} {im lo1 hi1:Nat} {As:Option Addr} {s:List Int} {vi:Value} {ni:Nat} {ics:List Value} {bP hib:Nat} {Ab:Option Addr} {cb:Nat} {gE:List (List Int)} {bM hia:Nat} {Aa:Option Addr} {ca:Nat} {ahead:List (List Int)} {v3 v4:Value} {wr w2:World} {lN mJ:Nat} {cells:List Value} {q:List (List Int)}
structure RQ (w:World)(m:Nat)(fs:Nat->Value)(lp:Int)(im:Nat)(lo1 hi1:Nat)(As:Option Addr)(s:List Int)(vi:Value)(ni:Nat)(ics:List Value)(bP hib:Nat)(Ab:Option Addr)(cb:Nat)(gE:List (List Int))(bM hia:Nat)(Aa:Option Addr)(ca:Nat)(ahead:List (List Int))(v3 v4:Value)(lN mJ:Nat)(cells:List Value)(q:List (List Int))(wr:World):Prop where
 rb:RB w m fs lp im lo1 hi1 As s vi ni ics bP hib Ab cb gE bM hia Aa ca ahead v3 v4 wr
 fq:Fl gT 1 wr (TR [aK,kl] lN mJ wr) cells q
 bq:w.heap.size+2<=lN/\mJ<=im
theorem RQ.next (h:RQ w m fs lp im lo1 hi1 As s vi ni ics bP hib Ab cb gE bM hia Aa ca ahead v3 v4 lN mJ cells q wr)(a:m<w)(d:Mk w2 m fs lp)(b:Mv m wr w2):RQ w m fs lp im lo1 hi1 As s vi ni ics bP hib Ab cb gE bM hia Aa ca ahead v3 v4 lN mJ cells q w2:=by obtain⟨e,f⟩:=h.bq;exact⟨h.rb.next a d b,h.fq.C gT.ok (TR.step b (λx c=>by injection c with c;exact .inl (by omega))),h.bq⟩
theorem RQ.drew (h:RQ w m fs lp im lo1 hi1 As s vi ni ics bP hib Ab cb gE bM hia Aa ca ahead v3 v4 lN mJ cells q wr):RQ w m fs lp im lo1 hi1 As s vi ni ics bP hib Ab cb gE bM hia Aa ca ahead v3 v4 lN mJ cells q wr.drew:=⟨h.rb.drew,h.fq,h.bq⟩
theorem RQ.rn (h:RQ w m fs lp im lo1 hi1 As s vi ni ics bP hib Ab cb gE bM hia Aa ca ahead v3 v4 lN mJ cells q wr){a:Nat}(b:im<=a)(c:a<=wr):RQ w m fs lp a lo1 hi1 As s vi ni ics bP hib Ab cb gE bM hia Aa ca ahead v3 v4 lN mJ cells q wr:=⟨h.rb.rn b c,h.fq,h.bq.1,nt h.bq.2 b⟩
theorem RQ.q' (h:RQ w m fs lp im lo1 hi1 As s vi ni ics bP hib Ab cb gE bM hia Aa ca ahead v3 v4 lN mJ cells q wr)(a:m<w)(u:Value):RQ w m fs lp im lo1 hi1 As s vi ni ics bP hib Ab cb gE bM hia Aa ca ahead u v4 lN mJ cells q (wr.setCell (w.heap.size+1,3) u):=by obtain⟨c,d⟩:=h.bq;exact⟨h.rb.q' a u,h.fq.C gT.ok (TR.step (aX (World.grownBy.refl wr (some (w.heap.size+1))) (.inl rfl) u) (λx b=>by injection b with b;exact .inl (by omega))),h.bq⟩
theorem RQ.vD (h:RQ w m fs lp im lo1 hi1 As s vi ni ics bP hib Ab cb gE bM hia Aa ca ahead v3 v4 lN mJ cells q wr)(a:m<w)(u:Value):RQ w m fs lp im lo1 hi1 As s vi ni ics bP hib Ab cb gE bM hia Aa ca ahead v3 u lN mJ cells q (wr.setCell (w.heap.size+1,4) u):=by obtain⟨c,d⟩:=h.bq;exact⟨h.rb.vD a u,h.fq.C gT.ok (TR.step (aX (World.grownBy.refl wr (some (w.heap.size+1))) (.inl rfl) u) (λx b=>by injection b with b;exact .inl (by omega))),h.bq⟩
theorem RQ.below (h:RQ w m fs lp im lo1 hi1 As s vi ni ics bP hib Ab cb gE bM hia Aa ca ahead v3 v4 lN mJ cells q wr)(a:Below wr wr w2):RQ w m fs lp im lo1 hi1 As s vi ni ics bP hib Ab cb gE bM hia Aa ca ahead v3 v4 lN mJ cells q w2:=by obtain⟨b,c,d,e,f,g,i,l⟩:=h.rb.g;have n:=a.size;have j:Sp m aK wr w2:=Sp.below a;exact⟨⟨h.rb.rs.below a,il.below gS.ok h.rb.set a,j.own h.rb.q (by decide),il.below gT.ok h.rb.fb a,il.below gT.ok h.rb.fa a,b,c,d,e,f,g,i,by omega⟩,h.fq.C gT.ok (TR.step (az a none) (λx k=>by cases k)),h.bq⟩
theorem RQ.more (h:RQ w m fs lp im lo1 hi1 As s vi ni ics bP hib Ab cb gE bM hia Aa ca ahead v3 v4 lN mJ cells q wr)(g:m<w){e t:TypeId}{L:Nat}(E:mh e t L)(r:pU≠e)(v:dD≠e)(y:kl≠e){j n c:Nat}{A:Option Addr}{N:List Value}{K:Nat}(z:im<=K)(i:K<=wr)
  (B:(#[Value.slice Ab gE.length cb,vi,Aa ahead.length ca,v3,v4,.int .i64 0]:Array Value)[j]?=some (A n c)) (k:wr.ownsRow K e L (A n c) n N) (a:Array Value) (l:a.size=L) (d:∀u∈a.toList,u.oneCell'=true) (F:n<=1000):
  ∃M c5 b,(Builtin.append_ #[t,t] t #[A n c,.slice (wr,0) 1 1]).run Tryz.prog (wr.alloc (.cells a e))=.ok (.slice M (n+1) c5) b/\
   b.cell? (w.heap.size+1,j)=some (A n c)/\b.frozen? (w.heap.size+1,j)=false/\b.ownsRow K e L (.slice M (n+1) c5) (n+1) (N++a.toList)/\RQ w m fs lp im lo1 hi1 As s vi ni ics bP hib Ab cb gE bM hia Aa ca ahead v3 v4 lN mJ cells q b:=by
 obtain⟨G,H⟩:=h.bq;obtain⟨M,c5,b,f,C,p,I⟩:=dJ E t wr K n c A N a l k d (by omega) i;have o:=h.rb.push g k z r v y p;exact⟨M,c5,b,f,by rw[o.rs.cell,B],o.rs.var.frozen j,C,o,h.fq.C gT.ok (TR.step p (λx D=> .inr (by have:=(k.lt x D).1;omega))),h.bq⟩
theorem row_one {w:World}{S:Bs}{cells:List Value}{q:List (List Int)}(h:Fl gT 1 w S cells q):∀u∈cells,u.oneCell'=true:=by
 intro u a;obtain⟨i,hi⟩:=pn.1 a;have b:i<q.length:=by have:=(ll.1 hi).1;rw[h.1]at this;omega
 obtain⟨e,⟨A,c,rfl,-⟩,-,d⟩:=h.2 i _ (jO b);have:=d 0 _ rfl;simp only[Nat.mul_one,Nat.add_zero]at this;rw[hi]at this;injection this with this
 subst this;rfl
theorem RB.app {e c1:Nat}(h:RB w m fs lp im lo1 hi1 As s (.slice (e,0) 1 c1) 1 ics bP hib Ab cb gE bM hia Aa ca ahead v3 v4 wr)(g:m<w)(p:hi1<=e/\(e<bP\/hib<=e)/\(e<bM\/hia<=e)){l:Option Addr}{cq:Nat}
  (r:Sl gT 1 wr (TR [aK,kl] lN mJ wr) l q) (F:e<lN) (t:mJ<=wr) (n:w.heap.size+2<=lN) (G:q.length<=100):
  ∃Q c5 a cells,(Builtin.append_ #[66,66] 66 #[.slice (e,0) 1 c1,l q.length cq]).run Tryz.prog wr=.ok (.slice Q (1+q.length) c5) a/\
   a.cell? (w.heap.size+1,1)=some (.slice (e,0) 1 c1)/\a.frozen? (w.heap.size+1,1)=false/\
   RQ w m fs lp a.heap.size lo1 hi1 As s (.slice Q (1+q.length) c5) (1+q.length) (ics++cells) bP hib Ab cb gE bM hia Aa ca ahead v3 v4 lN mJ cells q (a.setCell (w.heap.size+1,1) (.slice Q (1+q.length) c5)):=by
 obtain⟨H,u,I,P,K,L,M,N⟩:=h.g;obtain⟨cells,i,o⟩:=r.Ch (λb p=>by obtain⟨_,_,_,v,_⟩:=p;exact v.lt);obtain⟨Q,c5,a,j,y,f,O⟩:=wP LV 66 wr (w.heap.size+2) 1 c1 (e,0) ics h.q wr.heap.size l q.length cq cells o (row_one i) (by omega) (by omega);have z:=f.size;have c:∀x,(Value.slice (e,0) 1 c1).ownBlock=some x->x=e:=λx d=>by simp[Value.ownBlock]at d;exact d.symm
 have k:=h.rs.push g h.q (by omega) (by decide) (by decide) f;have A:Sl gS 1 a (TR [aK] lo1 hi1 a) As s:=il.row gS.ok h.set f (λx d=>by have:=c x d;omega);have B:Sl gT 1 a (TR [aK,kl] bP hib a) Ab gE:=il.row gT.ok h.fb f (λx d=>by have:=c x d;omega);have C:Sl gT 1 a (TR [aK,kl] bM hia a) Aa ahead:=il.row gT.ok h.fa f (λx d=>by have:=c x d;omega);have D:Fl gT 1 a (TR [aK,kl] lN mJ a) cells q:=i.C gT.ok (TR.step f (λx d=>by have:=c x d;omega));have E:=Sp.set (m:=m) k.var (by omega) 1 (.slice Q (1+q.length) c5);refine⟨Q,c5,a,cells,j,k.cell 1,k.var.frozen 1,⟨k.put g 1 _,il.put gS.ok A (.inl (by omega)) 1 _,E.own y (by decide),il.put gT.ok B (.inl (by omega)) 1 _,il.put gT.ok C (.inl (by omega)) 1 _,?_⟩,?_,n,by omega⟩
 .simp only[World.size_setCell];omega
 exact D.C gT.ok (TR.step (aX (World.grownBy.refl a (some (w.heap.size+1))) (.inl rfl) _) (λx d=>by injection d with d;exact .inl (by omega)))
