/- Lemmas. -/
import Derived.Test.YtkijckccfookeaaDoorW14
set_option linter.unusedVariables false
set_option linter.unusedSimpArgs false
set_option maxRecDepth 100000
set_option maxHeartbeats 32000000
namespace Go.Proofs.YtkijckccfookeaaDoor
section
open Go.RowKit Go.Shelf
attribute [local go_sem] Oper.semAt_some
def CI (J:List qf->World->Prop)(g:Nat)(W0:World)(pre:List xg)(W:World):Prop:=J (ut g pre) W/\KC W0 W
theorem Ql {J:List qf->World->Prop}{g B B':Nat}{W0:World}(hJ:OwnFrom B J)(hB:B<=B'):OwnFrom B' (CI J g W0):=by
 intro s A C row hs hg hr;have hr':∀r,row=some r->∃o:Obj,A.heap[r]? =some o/\o.isCells=false:=fun r e=>(hr r e).2
 refine⟨hJ _ A C row hs.1 hg (fun r e=>⟨nt hB (hr r e).1,(hr r e).2⟩),fun b cs t fz hb h1 h2=> ?_,nt hs.2.size hg.size⟩;have h3:=hs.2.same b cs t fz hb h1 h2;exact(grownBy_keeps_cells hg hr' h3 rfl).trans h3
theorem I8 {w:World}{base n c size:Nat}{e:TypeId}{A:Option Addr}{xs:List Value}(h:w.ownsRow base e size (.slice A n c) n xs):n<=c/\c<=9223372036854775807:=by
 rcases h.2 with⟨h,h0⟩|⟨g',cap',cur,h,_,_,h3,h4,_⟩
 ·simp only[abQ] at h;omega
 simp only[abQ,true_and] at h;obtain⟨_,rfl⟩:=h;simp only[maxLen] at h4;omega
theorem Du (w:World)(n m pb eb cv cu:Nat)(Av Eu:Option Addr)(cs:List Value)(h1c:∀u∈cs,u.oneCell'=true)(es:List Int)(hP:Bk w pb 49 #[.slice Av n cv])(hrow:Rd w w.heap.size Av n 3 cs)(hQ:Bk w eb 22 #[.slice Eu m cu])(hEr:Z4 w 3 Eu m 1 (aI es))
  (hn:n<=100000000000) (hm:m<=100000000000):
  Gives Tryd.prog 69 #[.pointer (some ⟨pb,0,none⟩),.pointer (some ⟨eb,0,none⟩)] BR (VC n cs es) KC (SC n es) 10 w:=by
 intro l k J W hk hl hW hJ hY h0;have hP1:=hP.below hW;have TZ:=hQ.below hW;have hr1:=hrow.below hW (ag _);have hE1:=hEr.below hW;have hs1:=hW.size;have p0:W.cell? ⟨pb,0,none⟩=some (.slice Av n cv):=hP1.cell 0;have e0:W.cell? ⟨eb,0,none⟩=some (.slice Eu m cu):=TZ.cell 0;have zp:=hP1.lt;have ze:=TZ.lt;clear hP hQ hrow hEr;refine callsIn_of_wp_marks Tryd.func69 rfl trivial ?_ rfl;simp only[Tryd.ntmps69,List.size_toArray,lc,ln,Nat.reduceAdd,Nat.reduceSub,Array.replicate_succ,Array.replicate_zero,List.push_toArray,List.append_toArray,abC,abh]
 gi_wp2_with fail
 gi_region_with (first
  |(refine⟨trivial,fun _=>nt (by decide) hk,?_⟩;gi_at_call 67;refine(callsIn_wide.2 (En _ w.heap.size Av n cv cs h1c ((hr1.alloc (by omega) _).drew) (by simp;omega) (by omega))).mono ?_;rintro e w1 ⟨v,rfl,hown,IM⟩;have hb1:=dW IM;have e1:=ae hb1 (aS _ e0);obtain⟨A1,c1,rfl,-⟩:=Rd.ZX hown)
  |(refine⟨trivial,fun _=>nt (by decide) hk,?_⟩;gi_at_call 70;refine(callsIn_wide.2 (zt A1 Eu n c1 m cu w1)).mono ?_;rintro e w' ⟨rfl,rfl⟩))
 all_goals
  obtain⟨g,hg⟩:∃g,0<n->A1=some ⟨g,0,none⟩:=by
   by_cases h:0<n
   ·obtain⟨g,cap,hv,_,_⟩:=hown.form h;simp only[abQ,true_and] at hv;exact⟨g,fun _=>hv.1⟩
   exact⟨0,fun h'=>absurd h' h⟩
  have hcap:=I8 hown;have RG:Bk w1 W.heap.size 148 #[.func (.yield l) #[] #[]]:=(bk1 W (.func (.yield l) #[] #[]) 148).below hb1;have hs2:=RG.lt;have hE2:=(hE1.below ((aa0 _ _).alloc (ag _) (.cells #[.func (.yield l) #[] #[]] 148))).below hb1
  gi_wp2_with fail
  obtain⟨W0,hW0⟩:∃W0,(w1.alloc (.cells #[.slice A1 n c1] 49)).alloc (.cells #[.slice Eu m cu] 22)=W0:=⟨_,rfl⟩
  have hz0:W0.heap.size=w1.heap.size+2:=by rw[<-hW0];simp
  have hb0:Below w1.heap.size w1 W0:=by rw[<-hW0];exact((aa0 _ _).alloc (ag _) _).alloc (by simp) _
  have hcr:Bk W0 w1.heap.size 49 #[.slice A1 n c1]:=by rw[<-hW0];exact(bk1 _ _ _).alloc _
  have hce:Bk W0 (w1.heap.size+1) 22 #[.slice Eu m cu]:=by rw[<-hW0];exact bk2 _ _ _ _
  have V7:=hE2.below hb0;have Xf:=RG.below hb0;have hrow3:Z4 W0 146 A1 n 3 cs:=(qI hown).below hb0;have hJ0:J [] W0:=by have a1:=hJ.alloc (.cells #[.func (.yield l) #[] #[]] 148) h0;have a2:J [] w1:=hJ [] _ w1 none a1 (bQ hb1 none) (fun r e=>by cases e);exact hJ [] _ W0 none a2 (bQ hb0 none) (fun r e=>by cases e)
  rw[hW0];clear hW0;have HY:=hd0 hY;have HJ:=hd0 hJ;clear hY hJ;refine lS (d:=8) (by omega) (gf:=92) (lb:= #[.pointer (some ⟨w1.heap.size+1,0,none⟩),.pointer (some ⟨w1.heap.size,0,none⟩)]) rfl (enters_of Tryd.func92 (by kernel_rfl) rfl) (fun _=>rfl)
   (zQ W0 _ _ g 0 n c1 m cu A1 Eu es hce hcr V7 hg hcap.1 hcap.2 (by omega))
   (fun h k=>h.trans k) (fun W l o o' h hc=>KC.put W l o o' h hc) (fun _ _ _ _ _ _ h _ _=>h)
   (CI J g W0) (Ql HJ.out (by omega)) ⟨hJ0,KC.refl _⟩
   (fun x=> {tmps:= #[.func (.yield l) #[] #[],.pointer (some ⟨pb,0,none⟩),.pointer (some ⟨eb,0,none⟩),.pointer (some ⟨W.heap.size,0,none⟩),.int .i64 (x.1:Int),.slice (some ⟨g,x.2.1*3,none⟩) (x.2.2+1 - x.2.1) (x.2.2+1 - x.2.1),.slice Av n cv,.slice A1 n c1,.slice Eu m cu,.func (.func 92) #[] #[.pointer (some ⟨w1.heap.size+1,0,none⟩),.pointer (some ⟨w1.heap.size,0,none⟩)],.int .i64 (x.1:Int),.slice (some ⟨g,x.2.1*3,none⟩) (x.2.2+1 - x.2.1) (x.2.2+1 - x.2.1),undef,undef,undef,undef,undef],defers:=[]}) ?assign ?body ?done
  case assign=>
   intro l2 x W2 K hK;simp only[Ea,abI]
   gi_wp2
   exact hK
  case body=>
   rintro l2 pre ⟨idx,f,e⟩ W2 ⟨hJ2,hK2⟩ ⟨hpx,hfe,hen⟩;dsimp only at hfe hen ⊢;have Yk:W2.cell? ⟨W.heap.size,0,none⟩=some (.func (.yield l) #[] #[]):=(hK2.bk Xf (by decide) (by decide)).cell 0;obtain rfl:=hg (by omega);have hv:VC n cs es (ut g pre) (idx,f,e,g) W2:=by refine⟨?_,hfe,hen,hK2.rdT hrow3 (by decide) (by decide)⟩;have:=hpx.map (fun p:xg=>(p.1,p.2.1,p.2.2,g));simpa [ut] using this
   obtain⟨fn,tmps,assign,body,hy,hR⟩:=HY.out _ (idx,f,e,g) W2 hJ2 hv;simp only[BR] at hy;clear hpx hv
   gi_wp2
   refine⟨rfl,?_⟩;refine(RoundIn.wide hR).mono ?_;rintro e3 W3 ⟨rfl,hJ3,iy,hK3⟩;have hout:Hid (CI J g W0 (pre++[(idx,f,e)]) W3/\KC W2 W3/\KeepsOthers W2 W3):=by refine⟨⟨by simpa [ut] using hJ3,hK2.trans iy⟩,iy,hK3⟩
   clear hJ3 iy hK3
   gi_wp2
   exact hout.out
  case done=>
   rintro D ys W2 hD hS ⟨hJ2,hK2⟩ hK;have HS:=hd0 hS;clear hS
   gi_wp2
   refine⟨by simp,.inl ⟨_,_,rfl,run_takeDeferred hK,?_⟩⟩;refine⟨_,results_none rfl _ _ _,⟨_,rfl⟩,_,⟨g,?_⟩,HJ.out.putObj _ hJ2 (by omega) hK rfl⟩;have h:=HS.out;unfold SP at h;rw[<-h]
end
section
open Go.RowKit Go.Shelf
theorem Fl.flat {α:Type}{R:ZL α}{size:Nat}(f:α->List Value)(hf:∀x,(f x).length=size)(hR:∀w S cs x,R w S cs x->cs=f x){w:World}{S:Bs}{cells:List Value}{xs:List α}(h:Fl R size w S cells xs):cells=xs.flatMap f:=by
 induction xs generalizing cells with
 |nil=>simpa [Fl] using h.1
 |cons x xs ih=>
  have hl:=h.1;simp only[lc] at hl;obtain⟨cs,r1,r2,r3⟩:=h.2 0 x rfl;obtain rfl:=hR _ _ _ _ r1;have e1:cells.take size=f x:=by
   apply List.ext_getElem?;intro i;by_cases hi:i<size
   ·have:i<(f x).length:=by rw[hf];exact hi
    have h2:=r3 i _ (aa3 this);rw[abu,if_pos hi];rw[Nat.zero_mul,abI] at h2;rw[h2,aa3 this]
   rw[abp (by simp;omega),abp (by rw[hf];omega)]
  have e2:cells.drop size=xs.flatMap f:=by apply ih;refine⟨by simp[hl,abP],fun k y hy=> ?_⟩;obtain⟨cs,s1,s2,s3⟩:=h.2 (k+1) y (by simpa using hy);refine⟨cs,s1,s2,fun j u hu=> ?_⟩;rw[List.getElem?_drop,show size+(k*size+j)=(k+1)*size+j by rw[abP];omega];exact s3 j u hu
  rw[abj,<-e1,<-e2,abx]
def lW (p:Pt):List Value:=[.int .i64 p.x,.int .i64 p.y,.bool p.on]
def dE (l:List Pt):List Value:=l.flatMap lW
theorem yU (l:List Pt):∀u∈dE l,u.oneCell'=true:=by intro u hu;simp only[dE,abE] at hu;obtain⟨p,_,hp⟩:=hu;simp only[lW,abd,abA,or_false] at hp;rcases hp with rfl|rfl|rfl<;>rfl
theorem Sl.rd {α:Type}{R:ZL α}{size:Nat}(f:α->List Value)(hf:∀x,(f x).length=size)(hR:∀w S cs x,R w S cs x->cs=f x){w:World}{A:Option Addr}{xs:List α}(h:Sl R size w (FT w) A xs):Rd w w.heap.size A xs.length size (xs.flatMap f):=by
 obtain⟨cells,h1,h2⟩:=h;have e:=h1.flat f hf hR;subst e;exact⟨h1.1,fun h0=>by
  obtain⟨b,o,e,hb,hc⟩:=h2 h0;obtain⟨ob,hb1,-⟩:=hb;exact⟨b,o,e,(aa4.1 hb1).1,hc⟩⟩
theorem Sl.aaS {w:World}{A:Option Addr}{xs:List Pt}(h:Sl PtR 3 w (FT w) A xs):Rd w w.heap.size A xs.length 3 (dE xs):=h.rd lW (fun _=>rfl) (fun _ _ _ _ h=>h.1)
theorem EZ (xs:List Int):xs.flatMap (fun z=>[Value.int .i64 z])=aI xs:=by
 induction xs with
 |nil=>rfl
 |cons x xs ih=>rw[abj,ih];rfl
theorem Sl.aaQ {w:World}{A:Option Addr}{xs:List Int}(h:Sl Zx 1 w (FT w) A xs):Rd w w.heap.size A xs.length 1 (aI xs):=by
 have:=h.rd (fun z=>[.int .i64 z]) (fun _=>rfl) (fun _ _ _ _ h=>h.1)
 rwa [EZ] at this
theorem U8 {w:World}{A:Option Addr}{xs:List Pt}(h:Sl PtR 3 w (FT w) A xs):∀p∈xs,I64 p.x/\I64 p.y:=by intro p hp;obtain⟨k,hk⟩:=abk.1 hp;obtain⟨b,o,x,-,-,hx,-,-,-,r0,r1⟩:=h.pt (aa2.1 hk).1;have:=hx.out;rw[hk] at this;cases this;exact⟨r0,r1⟩
def kN (pts:List Pt)(f e:Nat):List Pt:=(pts.take (e+1)).drop f
theorem IY (pts:List Pt)(k:Nat)(p:Pt)(h:pts[k]? =some p):(dE pts)[k*3]? =some (.int .i64 p.x)/\(dE pts)[k*3+1]? =some (.int .i64 p.y)/\(dE pts)[k*3+2]? =some (.bool p.on):=by
 induction pts generalizing k with
 |nil=>simp at h
 |cons q ps ih=>
  cases k with
  |zero=>simp at h;subst h;simp[dE,lW]
  |succ k=>
   have:=ih k (by simpa using h);have e:dE (q::ps)=lW q++dE ps:=rfl;simp only[e];refine⟨?_,?_,?_⟩<;>rw[abm (by simp[lW];omega)]<;>simp only[lW,lc,ln]
   ·rw[show(k+1)*3 - (0+1+1+1)=k*3 by omega];exact this.1
   ·rw[show(k+1)*3+1 - (0+1+1+1)=k*3+1 by omega];exact this.2.1
   rw[show(k+1)*3+2 - (0+1+1+1)=k*3+2 by omega];exact this.2.2
theorem LW {W:World}{g n:Nat}{pts:List Pt}(h:Z4 W 146 (some ⟨g,0,none⟩) n 3 (dE pts))(hn:n=pts.length)(hI:∀p∈pts,I64 p.x/\I64 p.y)(f e:Nat)(hfe:f<=e)(he:e<n):Sl PtR 3 W (FT W) (some ⟨g,f*3,none⟩) (kN pts f e):=by
 obtain⟨b,o,cur,e1,hb,hc⟩:=h.2 (by omega);simp only[abq,Addr.mk.injEq,and_true] at e1;obtain⟨rfl,rfl⟩:=e1;have key:∀k x,(kN pts f e)[k]? =some x->pts[f+k]? =some x:=by
  intro k x hx;rw[kN,List.getElem?_drop,abu] at hx;split at hx
  ·exact hx
  cases hx
 refine⟨dE (kN pts f e),⟨?_,fun k x hx=> ?_⟩,fun _=>⟨g,f*3,rfl,tN hb (by decide) (by decide),fun j u hu=> ?_⟩⟩
 ·have:∀l:List Pt,(dE l).length=l.length*3:=by
   intro l;induction l with
   |nil=>rfl
   |cons x l ih=>simp only[dE,abj,la,lW,lc,ln] at ih ⊢;omega
  exact this _
 ·refine⟨lW x,⟨rfl,hI x (aa8 (key k x hx))⟩,rfl,fun j u hu=> ?_⟩;obtain⟨q0,q1,q2⟩:=IY _ k x hx
  match j,hu with
  |0,hu=>simp[lW] at hu;subst hu;exact q0
  |1,hu=>simp[lW] at hu;subst hu;exact q1
  |2,hu=>simp[lW] at hu;subst hu;exact q2
 rw[Bk.cell hb];have h5:(dE pts)[f*3+j]? =some u:=by
  have e2:dE (kN pts f e)=((dE pts).take ((e+1)*3)).drop (f*3):=by
   have a1:∀(l:List Pt) (k:Nat),dE (l.take k)=(dE l).take (k*3):=by
    intro l;induction l with
    |nil=>intro k;simp[dE]
    |cons x l ih=>
     intro k;cases k with
     |zero=>simp[dE]
     |succ k=>have:=ih k;simp only[dE,List.take_succ_cons,abj] at this ⊢;rw[this,show(k+1)*3=k*3+3 by omega];simp[lW]
   have a2:∀(l:List Pt) (k:Nat),dE (l.drop k)=(dE l).drop (k*3):=by
    intro l;induction l with
    |nil=>intro k;simp[dE]
    |cons x l ih=>
     intro k;cases k with
     |zero=>simp[dE]
     |succ k=>have:=ih k;simp only[dE,List.drop_succ_cons,abj] at this ⊢;rw[this,show(k+1)*3=k*3+3 by omega];simp[lW]
   rw[kN,a2,a1]
  rw[e2,List.getElem?_drop,abu] at hu;split at hu
  ·exact hu
  cases hu
 have:=hc _ _ h5
 rwa [abI] at this
theorem zJ (pts:List Pt)(f e:Nat)(h:e<pts.length):(kN pts f e).length=e+1 - f:=by simp[kN];omega
def kQ (pts:List Pt)(x:qf):B:=ai bI ((kN pts x.2.1 x.2.2.1).map dN)
theorem Hm (pts:List Pt)(es:List Int):∀(k f:Nat),(iw pts.length k f es).map (fun p=>kN pts p.2.1 p.2.2)=bz pts f es:=by
 induction es with
 |nil=>intro k f;rfl
 |cons e es ih=>
  intro k f;rw[iw,bz];by_cases h:(f:Int)<=e/\e<(pts.length:Int)
  ·rw[if_pos h,if_neg (by omega),aba,ih];rfl
  rw[if_neg h,if_pos (by omega)];rfl
theorem uz (pts:List Pt)(es:List Int)(g:Nat):(ut g (iw pts.length 0 0 es)).flatMap (kQ pts)=(bz pts 0 es).flatMap (fun c=>ai bI (c.map dN)):=by rw[<-Hm pts es 0 0,ut,List.flatMap_map,List.flatMap_map];rfl
def jT (w W0:World)(Bd g:Nat)(fc:Nat->Value)(T:B)(W:World):Prop:=Pr W Bd g fc T/\KP W0 W/\Below Bd w W
theorem yg {W W':World}{Bd g:Nat}{fc:Nat->Value}{T:B}{row:Option Nat}(h:Pr W Bd g fc T)(hg:W.grownBy W' row)(hr:∀r,row=some r->∃o:Obj,W.heap[r]? =some o/\o.isCells=false):Pr W' Bd g fc T:=by
 obtain⟨ad,v,h1,h2,h3,h4⟩:=h;refine⟨ad,v,h1,(grownBy_keeps_cells hg hr h2 rfl).trans h2,h3,h4.kept hg ?_⟩;cases hrow:row with
 |none=>cases hv:v.ownBlock<;>simp
 |some r=>refine .inr (fun e=> ?_);obtain⟨o,ho,hc⟩:=hr r hrow;obtain⟨cur,hk⟩:=dh h4 r e;have hk2:W.heap[r]? =_:=hk;rw[hk2] at ho;cases ho;cases hc
theorem yO {W0 W W':World}{row:Option Nat}(h:KP W0 W)(hg:W.grownBy W' row)(hr:∀r,row=some r->W0.heap.size<=r):KP W0 W':=
 ⟨fun b o hb hn=>by
  have h1:=h.same b o hb hn;refine(hg.block b (aa4.1 h1).1 (fun e=> ?_)).trans h1;have:=hr b e.symm;have:=(aa4.1 hb).1;omega,nt h.size hg.size⟩
theorem J5 {w W0:World}{Bd g B0:Nat}{fc:Nat->Value}(F:List qf->B)(hB:W0.heap.size<=B0)(hw:Bd<=W0.heap.size):OwnFrom B0 (fun pre W=>jT w W0 Bd g fc (F pre) W):=by intro s A C row hs hg hr;obtain⟨h1,h2,h3⟩:=hs;refine⟨yg h1 hg (fun r e=>(hr r e).2),yO h2 hg (fun r e=>nt hB (hr r e).1),?_⟩;exact h3.grown hg (nt hw h2.size) (fun r e=>nt (nt hw hB) (hr r e).1)
end
end Go.Proofs.YtkijckccfookeaaDoor
