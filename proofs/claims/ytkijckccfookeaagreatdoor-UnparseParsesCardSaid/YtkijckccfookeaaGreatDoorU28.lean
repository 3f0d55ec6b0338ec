/- Lemmas. -/
import Derived.Test.YtkijckccfookeaaGreatDoorMkOut
import Derived.Test.YtkijckccfookeaaGreatDoorU27
set_option linter.unusedVariables false
set_option linter.unusedSimpArgs false
set_option maxRecDepth 100000
set_option maxHeartbeats 32000000
namespace Go.Proofs.YtkijckccfookeaaGreatDoor
open Go.RowKit
section
abbrev dA:TypeId:=76
abbrev vP:TypeId:=95
def TR (ts:List TypeId)(lo hi:Nat)(w:World):Bs:=fun b=>(lo<=b/\b<hi)/\∃cs t,Bk w b t cs/\t∈ts
theorem TR.of {ts:List TypeId}{base:Nat}{w:World}:∀b,TS ts base w b->TR ts base w.heap.size w b:=fun b h=>⟨⟨h.1,TS.lt b h⟩,h.2⟩
theorem TR.ts {ts ts':List TypeId}{lo hi base:Nat}{w:World}(h:∀t∈ts,t∈ts')(hb:base<=lo):∀b,TR ts lo hi w b->TS ts' base w b:=fun b ⟨⟨h1,h2⟩,cs,t,h3,h4⟩=>⟨by omega,cs,t,h3,h t h4⟩
section
variable {α:Type} {R:Rel α} {size:Nat} {w w':World} {ts:List TypeId} {lo hi:Nat} {A:Option Addr} {xs:List α} {cs:List Value}
theorem TR.step {row:Option Nat}(hg:w.grownBy w' row)(hr:∀x,row=some x->x<lo\/hi<=x):Same (TR ts lo hi w) w w'/\∀b,TR ts lo hi w b->TR ts lo hi w' b:=by
 have key:∀b,TR ts lo hi w b->w'.heap[b]? =w.heap[b]? :=fun b ⟨⟨h1,h2⟩,cs,t,hk,ht⟩=>hg.block b hk.lt (fun e=>by have:=hr b e.symm;omega)
 exact⟨key,fun b hb=>by
  obtain⟨h1,cs,t,hk,ht⟩:=hb;exact⟨h1,cs,t,(key b ⟨h1,cs,t,hk,ht⟩).trans hk,ht⟩⟩
theorem Frz.of (ok:R.Ok){base:Nat}(h:Sl R size w (TS ts base w) A xs):Sl R size w (TR ts base w.heap.size w) A xs:=h.mono ok TR.of
theorem Frz.below (ok:R.Ok)(h:Sl R size w (TR ts lo hi w) A xs)(hb:Below w.heap.size w w'):Sl R size w' (TR ts lo hi w') A xs:=h.moved ok (TR.step (aB hb none) (fun x hx=>by cases hx))
theorem Frz.next (ok:R.Ok){m:Nat}(h:Sl R size w (TR ts lo hi w) A xs)(hm:m<lo)(hv:Mv m w w'):Sl R size w' (TR ts lo hi w') A xs:=h.moved ok (TR.step hv (fun x hx=>by injection hx with hx;exact .inl (by omega)))
theorem Frz.put (ok:R.Ok){g:Nat}(h:Sl R size w (TR ts lo hi w) A xs)(hg:g<lo\/hi<=g)(j:Nat)(u:Value):Sl R size (w.setCell ⟨g,j,none⟩ u) (TR ts lo hi (w.setCell ⟨g,j,none⟩ u)) A xs:=h.moved ok (TR.step (aU (World.grownBy.refl w (some g)) (.inl rfl) u) (fun x hx=>by injection hx with hx;rw[<-hx];exact hg))
theorem Frz.push (ok:R.Ok){base n:Nat}{e:TypeId}{s:Nat}{v:Value}{ys:List Value}(h:Sl R size w (TR ts lo hi w) A xs)(ho:w.ownsRow base e s v n ys)(hb:hi<=base)(hg:w.grownBy w' v.ownBlock):Sl R size w' (TR ts lo hi w') A xs:=h.moved ok (TR.step hg (fun x hx=> .inr (nt hb (ho.lt x hx).1)))
theorem Frz.row (ok:R.Ok){row:Option Nat}(h:Sl R size w (TR ts lo hi w) A xs)(hg:w.grownBy w' row)(hr:∀x,row=some x->x<lo\/hi<=x):Sl R size w' (TR ts lo hi w') A xs:=h.moved ok (TR.step hg hr)
theorem Frz.typed (ok:R.Ok){ts':List TypeId}{base:Nat}(h:Sl R size w (TR ts lo hi w) A xs)(hs:∀t∈ts,t∈ts')(hb:base<=lo):Sl R size w (TS ts' base w) A xs:=h.mono ok (TR.ts hs hb)
end
def fK:Array Value:= #[.slice none 0 0,.slice none 0 0,.slice none 0 0,.slice none 0 0,.slice none 0 0,.int .i64 0]
structure RS (w:World)(m:Nat)(fs:Nat->Value)(lp:Int)(v:Array Value)(wr:World):Prop where
 mkr:Mk wr m fs lp
 res:Bk wr w.heap.size dA fK
 var:Bk wr (w.heap.size+1) dA v
 mv:Mv m w wr
section
variable {w:World} {m:Nat} {fs:Nat->Value} {lp:Int} {v:Array Value} {wr w2:World}
theorem RS.begin (h:Mk w m fs lp):RS w m fs lp fK ((w.alloc (.cells fK dA)).alloc (.cells fK dA)):=by have b1:Below w.heap.size w ((w.alloc (.cells fK dA)).alloc (.cells fK dA)):=((ant _ _).alloc (af _) _).alloc (by simp) _;refine⟨h.below b1,(Bk.new w _ _).alloc _,?_,jS (DJ m w) b1⟩;have:=Bk.new (w.alloc (.cells fK dA)) dA fK;simpa using this
theorem RS.next (h:RS w m fs lp v wr){lp2:Int}(hm:Mk w2 m fs lp2)(hv:Mv m wr w2):RS w m fs lp2 v w2:=by have hs:=Sp.next h.mkr hv;exact⟨hm,hs.bk h.res (by decide),hs.bk h.var (by decide),gu h.mv hv⟩
theorem RS.below (h:RS w m fs lp v wr)(hb:Below wr.heap.size wr w2):RS w m fs lp v w2:=by have hs:Sp m aQ wr w2:=Sp.below hb;exact⟨h.mkr.below hb,hs.bk h.res (by decide),hs.bk h.var (by decide),jS h.mv hb⟩
theorem RS.drew (h:RS w m fs lp v wr):RS w m fs lp v wr.drew:=h.below (ant _ _).drew
theorem RS.put (h:RS w m fs lp v wr)(hmw:m<w.heap.size)(j:Nat)(u:Value):RS w m fs lp (v.setIfInBounds j u) (wr.setCell ⟨w.heap.size+1,j,none⟩ u):=by have hs:Sp m dA wr (wr.setCell ⟨w.heap.size+1,j,none⟩ u):=Sp.set h.var (by omega) j u;exact⟨hs.mk h.mkr (by decide),h.res.far (by simp) _,h.var.set j u,uV h.mv (by omega) _ _⟩
theorem RS.push (h:RS w m fs lp v wr)(hmw:m<w.heap.size){base n s:Nat}{e:TypeId}{u:Value}{xs:List Value}(ho:wr.ownsRow base e s u n xs)(hb:w.heap.size<=base)(h1:mQ≠e)(h2:dA≠e)(hg:wr.grownBy w2 u.ownBlock):RS w m fs lp v w2:=by have hs:Sp m e wr w2:=Sp.push ho (by omega) hg;exact⟨hs.mk h.mkr h1,hs.bk h.res h2,hs.bk h.var h2,kK h.mv ho hb hg⟩
theorem RS.cell (h:RS w m fs lp v wr)(j:Nat):wr.cell? ⟨w.heap.size+1,j,none⟩=v[j]? :=h.var.cell j
end
abbrev je:List TypeId:=[aQ,tRow,vP]
def lG (w:World)(m:Nat)(fs:Nat->Value)(lp:Int)(G:Nat)(kind:Int)(e:Ending)(w':World):Prop:=
 ∃(r:als) (A0 A1 A2 A3 A4:Option Addr) (c0 c1 c2 c3 c4:Nat),ak8 G kind r/\e= .returned (.agg #[.slice A0 r.back.length c0,.slice A1 r.in'.length c1,.slice A2 r.ahead.length c2,.slice A3 r.out.length c3,.slice A4 r.calls.length c4,.int .i64 r.x])/\I64 r.x/\
  Sl akM 1 w' (TS je w.heap.size w') A0 r.back/\Sl akM 1 w' (TS je w.heap.size w') A1 r.in'/\Sl akM 1 w' (TS je w.heap.size w') A2 r.ahead/\Sl akL 1 w' (TS je w.heap.size w') A3 r.out/\Sl alu 2 w' (TS je w.heap.size w') A4 r.calls/\Mk w' m fs lp/\Mv m w w'
section
variable {w:World} {m:Nat} {fs:Nat->Value} {lp:Int} {v:Array Value} {wr w2:World}
theorem RS.in0 (h:RS w m fs lp fK wr)(hmw:m<w.heap.size){lo:Nat}{As:Option Addr}{s:List Int}{cs:Nat}(hs:Sl akL 1 wr (TR [aQ] lo wr.heap.size wr) As s)(hlo:w.heap.size+2<=lo)(hz:w.heap.size+2<=wr.heap.size)
  (hw:(wr.setCell ⟨w.heap.size+1,1,none⟩ (.slice (some ⟨wr.heap.size,0,none⟩) 1 1)).alloc (.cells #[.slice As s.length cs] tRow)=w2):
  RS w m fs lp #[.slice none 0 0,.slice (some ⟨wr.heap.size,0,none⟩) 1 1,.slice none 0 0,.slice none 0 0,.slice none 0 0,.int .i64 0] w2/\Sl akL 1 w2 (TR [aQ] lo wr.heap.size w2) As s/\w2.ownsRow (w.heap.size+2) tRow 1 (.slice (some ⟨wr.heap.size,0,none⟩) 1 1) 1 [.slice As s.length cs]/\w2.heap.size=wr.heap.size+1:=by
 subst hw;have h2:=h.put hmw 1 (.slice (some ⟨wr.heap.size,0,none⟩) 1 1);have hb:Below (wr.setCell ⟨w.heap.size+1,1,none⟩ (.slice (some ⟨wr.heap.size,0,none⟩) 1 1)).heap.size (wr.setCell ⟨w.heap.size+1,1,none⟩ (.slice (some ⟨wr.heap.size,0,none⟩) 1 1)) ((wr.setCell ⟨w.heap.size+1,1,none⟩ (.slice (some ⟨wr.heap.size,0,none⟩) 1 1)).alloc (.cells #[.slice As s.length cs] tRow)):=(ant _ _).alloc (af _) _;have ho:=yJ (wr.setCell ⟨w.heap.size+1,1,none⟩ (.slice (some ⟨wr.heap.size,0,none⟩) 1 1)) (w.heap.size+2) tRow 1 1 #[.slice As s.length cs] (by simpa using hz) rfl (by omega);exact⟨h2.below hb,Frz.below akL.ok (Frz.put akL.ok hs (.inl (by omega)) 1 _) hb,by simpa using ho,by simp⟩
theorem RS.more (h:RS w m fs lp v wr)(hmw:m<w.heap.size){e t:TypeId}{size:Nat}(E:ElT e t size)(h1:mQ≠e)(h2:dA≠e){j n c:Nat}{A:Option Addr}{xs:List Value}{base:Nat}(hb:w.heap.size<=base)(hbz:base<=wr.heap.size)(hv:v[j]? =some (.slice A n c))(ho:wr.ownsRow base e size (.slice A n c) n xs)(news:Array Value)(hnl:news.size=size)(hone:∀u∈news.toList,u.oneCell'=true)(hn:n<=1000):
  ∃A5 c5 w9,(Builtin.append_ #[t,t] t #[.slice A n c,.slice (some ⟨wr.heap.size,0,none⟩) 1 1]).run Tryz.prog (wr.alloc (.cells news e))= .ok (.slice A5 (n+1) c5) w9/\
   w9.cell? ⟨w.heap.size+1,j,none⟩=some (.slice A n c)/\w9.frozen? ⟨w.heap.size+1,j,none⟩=false/\wr.grownBy w9 (Value.slice A n c).ownBlock/\w9.ownsRow base e size (.slice A5 (n+1) c5) (n+1) (xs++news.toList)/\RS w m fs lp v w9:=by
 obtain⟨A5,c5,w9,hrun,aS,ax,bi⟩:=iJ E t wr base n c A xs news hnl ho hone (by omega) hbz;have h9:=h.push hmw ho hb h1 h2 ax;exact⟨A5,c5,w9,hrun,by rw[h9.cell,hv],h9.var.frozen j,ax,aS,h9⟩
end
def Gm (W:World)(g:Nat)(a b c d e f:Value):World:=(((((W.setCell ⟨g,0,none⟩ a).setCell ⟨g,1,none⟩ b).setCell ⟨g,2,none⟩ c).setCell ⟨g,3,none⟩ d).setCell ⟨g,4,none⟩ e).setCell ⟨g,5,none⟩ f
theorem oL {a w:World}{g:Nat}(h:a.grownBy w (some g))(j:Nat)(u:Value):a.grownBy (w.setCell ⟨g,j,none⟩ u) (some g):=aU h (.inl rfl) u
theorem Yx (W:World)(g:Nat)(a b c d e f:Value):W.grownBy (Gm W g a b c d e f) (some g):=by have h0:=World.grownBy.refl W (some g);have h1:=oL h0 0 a;have h2:=oL h1 1 b;have h3:=oL h2 2 c;have h4:=oL h3 3 d;have h5:=oL h4 4 e;exact oL h5 5 f
theorem ac9 {W:World}{g:Nat}{t:TypeId}(hb:Bk W g t fK)(a b c d e f:Value):Bk (Gm W g a b c d e f) g t #[a,b,c,d,e,f]:=by have h0:=hb.set 0 a;have h1:=h0.set 1 b;have h2:=h1.set 2 c;have h3:=h2.set 3 d;have h4:=h3.set 4 e;exact h4.set 5 f
theorem jU {w:World}{m:Nat}{fs:Nat->Value}{lp:Int}{wr:World}{G:Nat}{kind:Int}{r:als}{A0 A1 A2 A3 A4:Option Addr}{c0 c1 c2 c3 c4:Nat}
  (h:RS w m fs lp #[.slice A0 r.back.length c0,.slice A1 r.in'.length c1,.slice A2 r.ahead.length c2,.slice A3 r.out.length c3,.slice A4 r.calls.length c4,.int .i64 r.x] wr) (hmw:m<w.heap.size) (hok:ak8 G kind r) (hx:I64 r.x)
  (s0:Sl akM 1 wr (TS je w.heap.size wr) A0 r.back) (s1:Sl akM 1 wr (TS je w.heap.size wr) A1 r.in') (s2:Sl akM 1 wr (TS je w.heap.size wr) A2 r.ahead) (s3:Sl akL 1 wr (TS je w.heap.size wr) A3 r.out) (s4:Sl alu 2 wr (TS je w.heap.size wr) A4 r.calls):
  Bk (Gm wr w.heap.size (.slice A0 r.back.length c0) (.slice A1 r.in'.length c1) (.slice A2 r.ahead.length c2) (.slice A3 r.out.length c3) (.slice A4 r.calls.length c4) (.int .i64 r.x)) w.heap.size dA #[.slice A0 r.back.length c0,.slice A1 r.in'.length c1,.slice A2 r.ahead.length c2,.slice A3 r.out.length c3,.slice A4 r.calls.length c4,.int .i64 r.x]/\
   lG w m fs lp G kind (.returned (.agg #[.slice A0 r.back.length c0,.slice A1 r.in'.length c1,.slice A2 r.ahead.length c2,.slice A3 r.out.length c3,.slice A4 r.calls.length c4,.int .i64 r.x])) (Gm wr w.heap.size (.slice A0 r.back.length c0) (.slice A1 r.in'.length c1) (.slice A2 r.ahead.length c2) (.slice A3 r.out.length c3) (.slice A4 r.calls.length c4) (.int .i64 r.x)):=by
 have hg:=Yx wr w.heap.size (.slice A0 r.back.length c0) (.slice A1 r.in'.length c1) (.slice A2 r.ahead.length c2) (.slice A3 r.out.length c3) (.slice A4 r.calls.length c4) (.int .i64 r.x);have hbk:=ac9 h.res (.slice A0 r.back.length c0) (.slice A1 r.in'.length c1) (.slice A2 r.ahead.length c2) (.slice A3 r.out.length c3) (.slice A4 r.calls.length c4) (.int .i64 r.x);generalize Gm wr w.heap.size (.slice A0 r.back.length c0) (.slice A1 r.in'.length c1) (.slice A2 r.ahead.length c2) (.slice A3 r.out.length c3) (.slice A4 r.calls.length c4) (.int .i64 r.x)=W at*
 have sp:Sp m dA wr W:=⟨_,hg,fun x hx=>by injection hx with hx;subst hx;exact⟨by omega,_,h.res⟩⟩
 exact⟨hbk,r,A0,A1,A2,A3,A4,c0,c1,c2,c3,c4,hok,rfl,hx,sp.sl akM.ok (by decide) s0,sp.sl akM.ok (by decide) s1,sp.sl akM.ok (by decide) s2,sp.sl akL.ok (by decide) s3,sp.sl alu.ok (by decide) s4,sp.mk h.mkr (by decide),uM h.mv hg (fun x hx=>by injection hx with hx;exact .inl (by omega))⟩
structure RB (w:World)(m:Nat)(fs:Nat->Value)(lp:Int)(top:Nat)(lo1 hi1:Nat)(As:Option Addr)(s:List Int)(vi:Value)(ni:Nat)(ics:List Value)(bz hib:Nat)(Ab:Option Addr)(cb:Nat)(back:List (List Int))(bC hia:Nat)(Aa:Option Addr)(ca:Nat)(ahead:List (List Int))(v3 v4:Value)(wr:World):Prop where
 rs:RS w m fs lp #[.slice Ab back.length cb,vi,.slice Aa ahead.length ca,v3,v4,.int .i64 0] wr
 set:Sl akL 1 wr (TR [aQ] lo1 hi1 wr) As s
 inn:wr.ownsRow (w.heap.size+2) tRow 1 vi ni ics
 fb:Sl akM 1 wr (TR [aQ,tRow] bz hib wr) Ab back
 fa:Sl akM 1 wr (TR [aQ,tRow] bC hia wr) Aa ahead
 bnd:w.heap.size+2<=top/\w.heap.size+2<=lo1/\hi1<=top/\w.heap.size+2<=bz/\hib<=top/\w.heap.size+2<=bC/\hia<=top/\top<=wr.heap.size
section
variable {w:World} {m:Nat} {fs:Nat->Value} {lp:Int} {top lo1 hi1:Nat} {As:Option Addr} {s:List Int} {vi:Value} {ni:Nat} {ics:List Value} {bz hib:Nat} {Ab:Option Addr} {cb:Nat} {back:List (List Int)} {bC hia:Nat} {Aa:Option Addr} {ca:Nat} {ahead:List (List Int)} {v3 v4:Value} {wr w2:World}
theorem RB.next (h:RB w m fs lp top lo1 hi1 As s vi ni ics bz hib Ab cb back bC hia Aa ca ahead v3 v4 wr)(hmw:m<w.heap.size)(hm:Mk w2 m fs lp)(hv:Mv m wr w2):RB w m fs lp top lo1 hi1 As s vi ni ics bz hib Ab cb back bC hia Aa ca ahead v3 v4 w2:=by obtain⟨b0,b1,b2,b3,b4,b5,b6,b7⟩:=h.bnd;have hz:=hv.size;exact⟨h.rs.next hm hv,Frz.next akL.ok h.set (by omega) hv,(Sp.next h.rs.mkr hv).own h.inn (by decide),Frz.next akM.ok h.fb (by omega) hv,Frz.next akM.ok h.fa (by omega) hv,b0,b1,b2,b3,b4,b5,b6,by omega⟩
theorem RB.drew (h:RB w m fs lp top lo1 hi1 As s vi ni ics bz hib Ab cb back bC hia Aa ca ahead v3 v4 wr):RB w m fs lp top lo1 hi1 As s vi ni ics bz hib Ab cb back bC hia Aa ca ahead v3 v4 wr.drew:=⟨h.rs.drew,h.set,h.inn,h.fb,h.fa,h.bnd⟩
theorem RB.al6 (h:RB w m fs lp top lo1 hi1 As s vi ni ics bz hib Ab cb back bC hia Aa ca ahead v3 v4 wr){tY:Nat}(h1:top<=tY)(h2:tY<=wr.heap.size):RB w m fs lp tY lo1 hi1 As s vi ni ics bz hib Ab cb back bC hia Aa ca ahead v3 v4 wr:=by obtain⟨b0,b1,b2,b3,b4,b5,b6,b7⟩:=h.bnd;exact⟨h.rs,h.set,h.inn,h.fb,h.fa,by omega,b1,by omega,b3,by omega,b5,by omega,h2⟩
theorem RB.push (h:RB w m fs lp top lo1 hi1 As s vi ni ics bz hib Ab cb back bC hia Aa ca ahead v3 v4 wr)(hmw:m<w.heap.size){base n sz:Nat}{e:TypeId}{u:Value}{xs:List Value}(ho:wr.ownsRow base e sz u n xs)(hb:top<=base)(h1:mQ≠e)(h2:dA≠e)(h3:tRow≠e)(hg:wr.grownBy w2 u.ownBlock):RB w m fs lp top lo1 hi1 As s vi ni ics bz hib Ab cb back bC hia Aa ca ahead v3 v4 w2:=by
 obtain⟨b0,b1,b2,b3,b4,b5,b6,b7⟩:=h.bnd;have hz:=hg.size;have hz0:=h.rs.mv.size;have hb0:w.heap.size<=base:=by omega
 exact⟨h.rs.push hmw ho hb0 h1 h2 hg,Frz.push akL.ok h.set ho (by omega) hg,(Sp.push (m:=m) ho (by omega) hg).own h.inn h3,Frz.push akM.ok h.fb ho (by omega) hg,Frz.push akM.ok h.fa ho (by omega) hg,b0,b1,b2,b3,b4,b5,b6,by omega⟩
theorem RB.alZ (h:RB w m fs lp top lo1 hi1 As s vi ni ics bz hib Ab cb back bC hia Aa ca ahead v3 v4 wr)(hmw:m<w.heap.size)(u:Value):RB w m fs lp top lo1 hi1 As s vi ni ics bz hib Ab cb back bC hia Aa ca ahead u v4 (wr.setCell ⟨w.heap.size+1,3,none⟩ u):=by obtain⟨b0,b1,b2,b3,b4,b5,b6,b7⟩:=h.bnd;exact⟨h.rs.put hmw 3 u,Frz.put akL.ok h.set (.inl (by omega)) 3 u,(Sp.set (m:=m) h.rs.var (by omega) 3 u).own h.inn (by decide),Frz.put akM.ok h.fb (.inl (by omega)) 3 u,Frz.put akM.ok h.fa (.inl (by omega)) 3 u,b0,b1,b2,b3,b4,b5,b6,by simpa using b7⟩
theorem RB.amu (h:RB w m fs lp top lo1 hi1 As s vi ni ics bz hib Ab cb back bC hia Aa ca ahead v3 v4 wr)(hmw:m<w.heap.size)(u:Value):RB w m fs lp top lo1 hi1 As s vi ni ics bz hib Ab cb back bC hia Aa ca ahead v3 u (wr.setCell ⟨w.heap.size+1,4,none⟩ u):=by obtain⟨b0,b1,b2,b3,b4,b5,b6,b7⟩:=h.bnd;exact⟨h.rs.put hmw 4 u,Frz.put akL.ok h.set (.inl (by omega)) 4 u,(Sp.set (m:=m) h.rs.var (by omega) 4 u).own h.inn (by decide),Frz.put akM.ok h.fb (.inl (by omega)) 4 u,Frz.put akM.ok h.fa (.inl (by omega)) 4 u,b0,b1,b2,b3,b4,b5,b6,by simpa using b7⟩
theorem RB.more (h:RB w m fs lp top lo1 hi1 As s vi ni ics bz hib Ab cb back bC hia Aa ca ahead v3 v4 wr)(hmw:m<w.heap.size){e t:TypeId}{size:Nat}(E:ElT e t size)(h1:mQ≠e)(h2:dA≠e)(h3:tRow≠e){j n c:Nat}{A:Option Addr}{xs:List Value}{base:Nat}(hb:top<=base)(hbz:base<=wr.heap.size)
  (hv:(#[Value.slice Ab back.length cb,vi,.slice Aa ahead.length ca,v3,v4,.int .i64 0]:Array Value)[j]? =some (.slice A n c)) (ho:wr.ownsRow base e size (.slice A n c) n xs) (news:Array Value) (hnl:news.size=size) (hone:∀u∈news.toList,u.oneCell'=true) (hn:n<=1000):
  ∃A5 c5 w9,(Builtin.append_ #[t,t] t #[.slice A n c,.slice (some ⟨wr.heap.size,0,none⟩) 1 1]).run Tryz.prog (wr.alloc (.cells news e))= .ok (.slice A5 (n+1) c5) w9/\
   w9.cell? ⟨w.heap.size+1,j,none⟩=some (.slice A n c)/\w9.frozen? ⟨w.heap.size+1,j,none⟩=false/\w9.ownsRow base e size (.slice A5 (n+1) c5) (n+1) (xs++news.toList)/\RB w m fs lp top lo1 hi1 As s vi ni ics bz hib Ab cb back bC hia Aa ca ahead v3 v4 w9:=by
 obtain⟨A5,c5,w9,hrun,aS,ax,bi⟩:=iJ E t wr base n c A xs news hnl ho hone (by omega) hbz;have h9:=h.push hmw ho hb h1 h2 h3 ax;exact⟨A5,c5,w9,hrun,by rw[h9.rs.cell,hv],h9.rs.var.frozen j,aS,h9⟩
end
theorem ZW:(Tryz.prog.info? dA).map (·.size)=some 6:=by kernel_rfl
theorem dV {W:World}{g:Nat}{cs:Array Value}{tmps:Array Value}(hb:Bk W g dA cs)(hsz:cs.size=6)(h2:tmps.getD 6 undef= .pointer (some ⟨g,0,none⟩)):(results Tryz.f108 tmps).run Tryz.prog W= .ok (.agg cs) W:=by rw[ql (fn:=Tryz.f108) (p:=6) (ty:=dA) rfl,h2];have:=run_loadVar_row (P:=Tryz.prog) W g dA dA cs (0,0) _ hb Tryz.underlying76 rfl (by rw[ZW,hsz]);simp[asAddr,Result.andThen,this]
end
section
attribute [-go_sem] Builtin.append_
def dS:Nat->List P3->List (List P3)->List P3->Option (List (List P3))
 |n,cur,told,[]=>if n=3 then some (told++[cur]) else none
 |n,cur,told,w::r=>
  if w.2.2≠[47]/\w.2.2≠[62] then dS n (cur++[w]) told r
  else if(n<2/\w.2.2=[47])\/(n=2/\w.2.2=[62]) then dS (n+1) [] (told++[cur]) r else none
def kU (ws:List P3):Option (List (List P3)):=dS 0 [] [] ws
theorem NW (n:Nat)(cur:List P3)(told:List (List P3))(ws:List P3):iQ n (ag cur) (told.map ag) (ag ws)=(dS n cur told ws).map (List.map ag):=by
 induction ws generalizing n cur told with
 |nil=>
  show iQ n (ag cur) (told.map ag) []=_;rw[iQ,dS];split
  ·simp
  rfl
 |cons w r ih=>
  show iQ n (ag cur) (told.map ag) (w.2.2::ag r)=_;rw[iQ,dS];split
  ·have:=ih n (cur++[w]) told;rw[show ag (cur++[w])=ag cur++[w.2.2] by simp[ag]] at this;exact this
  split
  ·have:=ih (n+1) [] (told++[cur]);rw[an7] at this;exact this
  rfl
theorem Qk (ws:List P3):pM (ag ws)=(kU ws).map (List.map ag):=NW 0 [] [] ws
theorem UD (n:Nat)(cur:List P3)(told:List (List P3))(ws:List P3)(rows:List (List P3))(hn:n=told.length)(h:dS n cur told ws=some rows):rows.length=4/\∀r∈rows,r∈told\/r.length<=cur.length+ws.length:=by
 induction ws generalizing n cur told with
 |nil=>
  rw[dS] at h;split at h
  ·cases h;refine⟨by simp;omega,fun r hr=> ?_⟩;rcases anz.1 hr with g|g
   ·exact .inl g
   simp only[anu] at g;subst g;exact .inr (by simp)
  cases h
 |cons w r ih=>
  rw[dS] at h;split at h
  ·obtain⟨g1,g2⟩:=ih n (cur++[w]) told hn h;refine⟨g1,fun x hx=>(g2 x hx).imp id fun g=> ?_⟩;simp only[aT,la,ln] at g ⊢;omega
  split at h
  ·obtain⟨g1,g2⟩:=ih (n+1) [] (told++[cur]) (by simp[hn]) h;refine⟨g1,fun x hx=> ?_⟩;rcases g2 x hx with g|g
   ·rcases anz.1 g with g|g
    ·exact .inl g
    simp only[anu] at g;subst g;exact .inr (by omega)
   exact .inr (by simp only[aT,ln] at g ⊢;omega)
  cases h
theorem Qu {ws:List P3}{rows:List (List P3)}(h:kU ws=some rows):rows.length=4/\∀r∈rows,r.length<=ws.length:=by obtain⟨h1,h2⟩:=UD 0 [] [] ws rows rfl h;exact⟨h1,fun r hr=>(h2 r hr).elim (fun g=>by simp at g) (fun g=>by simpa using g)⟩
abbrev iR:TypeId:=208
abbrev vM:TypeId:=242
abbrev dZ:TypeId:=124
def dI (hs:List Value)(v:Value):Array Value:=(hs++[v]++List.replicate (3 - hs.length) (Value.slice none 0 0)).toArray
def ul:Array Value:= #[.string ⟨#[47]⟩,.string ⟨#[47]⟩,.string ⟨#[62]⟩]
theorem QN (hs:List Value)(v:Value):(dI hs v)[hs.length]? =some v:=by simp[dI]
theorem acb (hs:List Value)(v u:Value):(dI hs v).setIfInBounds hs.length u=dI hs u:=by simp[dI]
theorem ZR (hs:List Value)(v:Value)(h:hs.length<3):dI (hs++[v]) (.slice none 0 0)=dI hs v:=by
 unfold dI;congr 1
 have:3 - hs.length=(3 - (hs++[v]).length)+1:=by simp;omega
 rw[this,List.replicate_succ];simp
theorem aap (hs:List Value)(v:Value)(h:hs.length<=3):∃a b c d,dI hs v= #[a,b,c,d]:=by
 have hl:(dI hs v).toList.length=4:=by simp[dI];omega
 match hm:(dI hs v).toList,hl with
 |[a,b,c,d],_=>exact⟨a,b,c,d,by rw[<-Array.toList_inj,hm]⟩
def alO (w:World)(ws:List P3)(k n:Nat)(wr:World):Prop:=
 ∃told hs cur A c Wo,hs.length=n/\told.length=n/\n<=3/\cur.length<=k/\dS n cur told (ws.drop k)=kU ws/\Below w.heap.size w Wo/\w.heap.size+1<Wo.heap.size/\RowsIn dZ Wo hs told/\Wo.grownBy wr (some w.heap.size)/\
  wr.ownsRow Wo.heap.size dZ 3 (.slice A cur.length c) cur.length (dD cur)/\Bk wr w.heap.size iR (dI hs (.slice A cur.length c))/\Bk wr (w.heap.size+1) vM ul/\(∃cs0,Bk Wo w.heap.size iR cs0)
theorem alO.low {w wr:World}{ws:List P3}{k n:Nat}(h:alO w ws k n wr):Below w.heap.size w wr:=by obtain⟨told,hs,cur,A,c,Wo,-,-,-,-,-,h6,h7,-,h9,-⟩:=h;exact h6.grown h9 h6.size (fun g e=>by cases e;exact af _)
theorem RowsIn.keepW {w w':World}{hs:List Value}{rows:List (List P3)}(h:RowsIn dZ w hs rows){P:Nat}{t:TypeId}{cs:Array Value}(hb:Bk w P t cs)(hg:w.grownBy w' (some P))(hne:dZ≠t):RowsIn dZ w' hs rows:=h.kept fun _ _ _ hr=>hr.grown hg (fun g e=>by cases e;exact⟨cs,t,hb,hne⟩)
theorem alO.more {w wr w9:World}{ws:List P3}{k n:Nat}{told:List (List P3)}{hs:List Value}{cur:List P3}{A A':Option Addr}{c c':Nat}{Wo:World}{q:P3}(h1:hs.length=n)(h2:told.length=n)(h3:n<=3)(h4:cur.length<=k)(h5:dS n cur told (ws.drop k)=kU ws)(h6:Below w.heap.size w Wo)(h7:w.heap.size+1<Wo.heap.size)(h8:RowsIn dZ Wo hs told)
  (h9:Wo.grownBy wr (some w.heap.size)) (h10:wr.ownsRow Wo.heap.size dZ 3 (.slice A cur.length c) cur.length (dD cur)) (h11:Bk wr w.heap.size iR (dI hs (.slice A cur.length c))) (h12:Bk wr (w.heap.size+1) vM ul)
  (hq:ws[k]? =some q) (q1:q.2.2≠[47]) (q2:q.2.2≠[62]) (o:Obj) (ho:w9.ownsRow Wo.heap.size dZ 3 (.slice A' (cur.length+1) c') (cur.length+1) (dD cur++c3 q)) (hg:(wr.alloc o).grownBy w9 (Value.slice A cur.length c).ownBlock) {cs0:Array Value} (h13:Bk Wo w.heap.size iR cs0):
  alO w ws (k+1) n (w9.setCell ⟨w.heap.size,n,none⟩ (.slice A' (cur.length+1) c')):=by
 have hown:=h10.alloc o;have b9:Bk w9 w.heap.size iR (dI hs (.slice A cur.length c)):=Bk.grown (h11.alloc o) hg hown (by decide);have c9:Bk w9 (w.heap.size+1) vM ul:=Bk.grown (h12.alloc o) hg hown (by decide);have hlow:∀g,(Value.slice A cur.length c).ownBlock=some g->Wo.heap.size<=g:=fun g e=>(h10.lt g e).1
 refine⟨told,hs,cur++[q],A',c',Wo,h1,h2,h3,by simp;omega,?_,h6,h7,h8,?_,?_,?_,Bk.far c9 (by simp) _,⟨cs0,h13⟩⟩
 ·rw[<-h5,vO ws k q hq,dS,if_pos ⟨q1,q2⟩]
 ·have g1:Wo.grownBy w9 (some w.heap.size):=⟨hg.os.trans h9.os,hg.tape.trans h9.tape,hg.output.trans h9.output,nt h9.size (nt (by simp) hg.size),fun i hi hne=>by
   refine((hg.block i (by have:=h9.size;simp;omega) fun e=> ?_).trans (Below.heap_alloc _ _ _ (anD hi h9.size))).trans (h9.block i hi hne);have:=hlow i e.symm;omega⟩
  exact df g1 (dE w9 ⟨w.heap.size,n,none⟩ _)
 ·rw[la,zB];have:dD [q]=c3 q:=by simp[dD]
  rw[this];exact qU ho b9 (by decide) n _
 have:=b9.set n (.slice A' (cur.length+1) c');rw[<-h1,acb] at this;rw[la,<-h1];exact this
theorem alO.next {w wr w9:World}{ws:List P3}{k n:Nat}{told:List (List P3)}{hs:List Value}{cur:List P3}{A:Option Addr}{c:Nat}{Wo:World}{q:P3}(h1:hs.length=n)(h2:told.length=n)(h5:dS n cur told (ws.drop k)=kU ws)(h6:Below w.heap.size w Wo)(h7:w.heap.size+1<Wo.heap.size)(h8:RowsIn dZ Wo hs told)
  (h9:Wo.grownBy wr (some w.heap.size)) (h10:wr.ownsRow Wo.heap.size dZ 3 (.slice A cur.length c) cur.length (dD cur)) (h11:Bk wr w.heap.size iR (dI hs (.slice A cur.length c))) (h12:Bk wr (w.heap.size+1) vM ul) {cs0:Array Value} (h13:Bk Wo w.heap.size iR cs0)
  (hq:ws[k]? =some q) (q1:(n<2/\q.2.2=[47])\/(n=2/\q.2.2=[62])) (hb:Below wr.heap.size wr w9):alO w ws (k+1) (n+1) w9:=by
 have r1:=((h8.keepW h13 h9 (by decide)).snoc (jl h10) (vW h10)).below hb;have s1:=h6.size;have s2:=h9.size;have s3:=hb.size;refine⟨told++[cur],hs++[.slice A cur.length c],[],none,0,w9,by simp[h1],by simp[h2],by omega,by simp,?_,?_,by omega,r1,World.grownBy.refl _ _,World.ownsRow_nil _ _ _ _,?_,h12.keep (hb.block _ h12.lt),⟨_,h11.keep (hb.block _ h11.lt)⟩⟩
 ·rw[<-h5,vO ws k q hq,dS,if_neg ?_,if_pos q1];rintro⟨g1,g2⟩;rcases q1 with⟨_,h⟩|⟨_,h⟩
  ·exact g1 h
  exact g2 h
 ·exact((h6.grown h9 h6.size (fun g e=>by cases e;exact af _))).trans (hb.mono (by omega))
 rw[ln,ZR _ _ (by omega)];exact h11.keep (hb.block _ h11.lt)
def QS (w:World)(ws:List P3)(e:Ending)(w':World):Prop:=
 Below w.heap.size w w'/\∃A0 k0 c0 A1 k1 c1 A2 k2 c2 A3 k3 c3,match kU ws with
  |none=>e= .returned (.tuple #[.agg #[.slice A0 k0 c0,.slice A1 k1 c1,.slice A2 k2 c2,.slice A3 k3 c3],.bool false])
  |some rows=>e= .returned (.tuple #[.agg #[.slice A0 k0 c0,.slice A1 k1 c1,.slice A2 k2 c2,.slice A3 k3 c3],.bool true])/\RowsIn dZ w' [.slice A0 k0 c0,.slice A1 k1 c1,.slice A2 k2 c2,.slice A3 k3 c3] rows
theorem ab2 {ws:List P3}{k n:Nat}{told:List (List P3)}{cur:List P3}(h5:dS n cur told (ws.drop k)=kU ws)(hk:ws.length<=k):kU ws=if n=3 then some (told++[cur]) else none:=by rw[<-h5,an3 hk,dS]
theorem abK {ws:List P3}{k n:Nat}{told:List (List P3)}{cur:List P3}{q:P3}(h5:dS n cur told (ws.drop k)=kU ws)(hq:ws[k]? =some q)(q0:q.2.2=[47]\/q.2.2=[62])(q1:¬((n<2/\q.2.2=[47])\/(n=2/\q.2.2=[62]))):kU ws=none:=by
 rw[<-h5,vO ws k q hq,dS,if_neg ?_,if_neg q1];rintro⟨g1,g2⟩;rcases q0 with h|h
 ·exact g1 h
 exact g2 h
end
section
abbrev Wj (lo hi:Nat)(w w':World):Prop:=∀b,lo<=b->b<hi->w'.heap[b]? =w.heap[b]?
structure Fzn (lo hi:Nat)(P:World->Prop)(w:World):Prop where
 now:P w
 keep:∀w w',P w->Wj lo hi w w'->P w'
 top:hi<=w.heap.size
section
variable {lo hi:Nat} {P Q:World->Prop} {w w':World} {m:Nat}
theorem Fzn.step (h:Fzn lo hi P w)(hz:w.heap.size<=w'.heap.size)(he:Wj lo hi w w'):Fzn lo hi P w':=⟨h.keep _ _ h.now he,h.keep,nt h.top hz⟩
theorem Fzn.row {row:Option Nat}(h:Fzn lo hi P w)(hg:w.grownBy w' row)(hr:∀x,row=some x->x<lo\/hi<=x):Fzn lo hi P w':=h.step hg.size fun b h1 h2=>hg.block b (by have:=h.top;omega) (fun e=>by have:=hr b e.symm;omega)
theorem Fzn.next (h:Fzn lo hi P w)(hm:m<lo)(hv:Mv m w w'):Fzn lo hi P w':=h.row hv (fun x hx=>by injection hx with hx;exact .inl (by omega))
theorem Fzn.below (h:Fzn lo hi P w)(hb:Below w.heap.size w w'):Fzn lo hi P w':=h.row (aB hb none) (fun x hx=>by cases hx)
theorem Fzn.drew (h:Fzn lo hi P w):Fzn lo hi P w.drew:=h.below (ant _ _).drew
theorem Fzn.put (h:Fzn lo hi P w){g:Nat}(hg:g<lo\/hi<=g)(j:Nat)(u:Value):Fzn lo hi P (w.setCell ⟨g,j,none⟩ u):=h.row (aU (World.grownBy.refl w (some g)) (.inl rfl) u) (fun x hx=>by injection hx with hx;rw[<-hx];exact hg)
theorem Fzn.push {base n s:Nat}{e:TypeId}{v:Value}{ys:List Value}(h:Fzn lo hi P w)(ho:w.ownsRow base e s v n ys)(hb:hi<=base)(hg:w.grownBy w' v.ownBlock):Fzn lo hi P w':=h.row hg (fun x hx=> .inr (nt hb (ho.lt x hx).1))
theorem Fzn.wide (h:Fzn lo hi P w){lo2 hi2:Nat}(h1:lo2<=lo)(h2:hi<=hi2)(h3:hi2<=w.heap.size):Fzn lo2 hi2 P w:=⟨h.now,fun a b ha he=>h.keep a b ha (fun x h4 h5=>he x (by omega) (by omega)),h3⟩
theorem Fzn.and (h:Fzn lo hi P w)(k:Fzn lo hi Q w):Fzn lo hi (fun w=>P w/\Q w) w:=⟨⟨h.now,k.now⟩,fun a b ha he=>⟨h.keep a b ha.1 he,k.keep a b ha.2 he⟩,h.top⟩
theorem Fzn.true (h:hi<=w.heap.size):Fzn lo hi (fun _=>True) w:=⟨trivial,fun _ _ _ _=>trivial,h⟩
theorem Fzn.map (h:Fzn lo hi P w)(hm:∀w,P w->Q w)(hk:∀w w',Q w->Wj lo hi w w'->Q w'):Fzn lo hi Q w:=⟨hm w h.now,hk,h.top⟩
theorem TR.eqb {ts:List TypeId}(he:Wj lo hi w w'):Same (TR ts lo hi w) w w'/\∀b,TR ts lo hi w b->TR ts lo hi w' b:=by
 have key:∀b,TR ts lo hi w b->w'.heap[b]? =w.heap[b]? :=fun b hb=>he b hb.1.1 hb.1.2
 exact⟨key,fun b hb=>by
  obtain⟨h1,cs,t,hk,ht⟩:=hb;exact⟨h1,cs,t,(key b ⟨h1,cs,t,hk,ht⟩).trans hk,ht⟩⟩
variable {α:Type} {R:Rel α} {size:Nat} {ts:List TypeId} {A:Option Addr} {xs:List α} {cs:List Value}
theorem Fzn.sl (ok:R.Ok)(h:Sl R size w (TR ts lo hi w) A xs)(ht:hi<=w.heap.size):Fzn lo hi (fun w=>Sl R size w (TR ts lo hi w) A xs) w:=⟨h,fun _ _ ha he=>ha.moved ok (TR.eqb he),ht⟩
theorem Fzn.fl (ok:R.Ok)(h:Fl R size w (TR ts lo hi w) cs xs)(ht:hi<=w.heap.size):Fzn lo hi (fun w=>Fl R size w (TR ts lo hi w) cs xs) w:=⟨h,fun _ _ ha he=>ha.moved ok (TR.eqb he),ht⟩
theorem TR.sub {ts':List TypeId}{lo' hi':Nat}(h:∀t∈ts,t∈ts')(h1:lo'<=lo)(h2:hi<=hi'):∀b,TR ts lo hi w b->TR ts' lo' hi' w b:=fun b ⟨⟨h3,h4⟩,cs,t,h5,h6⟩=>⟨⟨by omega,by omega⟩,cs,t,h5,h t h6⟩
theorem TR.lw:∀b,TR ts lo hi w b->b<w.heap.size:=fun b ⟨_,_,_,h,_⟩=>h.lt
theorem TR.amb {base:Nat}(h:lo<=base):∀b,TS ts base w b->TR ts lo w.heap.size w b:=fun b hb=>⟨⟨nt h hb.1,TS.lt b hb⟩,hb.2⟩
theorem yH {e:TypeId}{base n c:Nat}(h:w.ownsRow base e size (.slice A n c) n cs)(hf:Fl R size w (TR ts lo w.heap.size w) cs xs)(he:e∈ts)(hb:lo<=base)(hsz:0<size):Sl R size w (TR ts lo w.heap.size w) A xs:=
 Sl.aly h hf (fun g hg=>by
  obtain⟨cur,hk⟩:=iG h g hg;exact⟨⟨by have:=(h.lt g hg).1;omega,hk.lt⟩,cur,e,hk,he⟩) hsz
end
structure Mv2 (m:Nat)(row:Option Nat)(w w':World):Prop where
 os:w'.os=w.os
 tape:w'.tape=w.tape
 output:w'.output=w.output
 size:w.heap.size<=w'.heap.size
 block:∀i,i<w.heap.size->i≠m->row≠some i->w'.heap[i]? =w.heap[i]?
section
variable {m:Nat} {row:Option Nat} {w w' w2:World}
theorem Mv.two (h:Mv m w w'):Mv2 m row w w':=⟨h.os,h.tape,h.output,h.size,fun i h1 h2 _=>h.block i h1 (fun e=>by injection e with e;exact h2 e)⟩
theorem Mv2.step {r:Option Nat}(h:Mv2 m row w w')(hg:w'.grownBy w2 r)(hr:∀x,r=some x->w.heap.size<=x\/x=m\/row=some x):Mv2 m row w w2:=
 ⟨hg.os.trans h.os,hg.tape.trans h.tape,hg.output.trans h.output,nt h.size hg.size,fun i h1 h2 h3=>(hg.block i (anD h1 h.size) (fun e=>by
  rcases hr i e.symm with h4|h4|h4
  ·omega
  ·exact h2 h4
  exact h3 h4)).trans (h.block i h1 h2 h3)⟩
theorem Mv2.fz {lo hi:Nat}{P:World->Prop}(h:Mv2 m row w w')(hm:m<lo)(hr:∀x,row=some x->hi<=x)(k:Fzn lo hi P w):Fzn lo hi P w':=k.step h.size fun b h1 h2=>h.block b (by have:=k.top;omega) (by omega) (fun e=>by have:=hr b e;omega)
end
end
section
section
variable {w:World} {m:Nat} {fs:Nat->Value} {lp:Int} {top lo1 hi1:Nat} {As:Option Addr} {s:List Int} {vi:Value} {ni:Nat} {ics:List Value} {bz hib:Nat} {Ab:Option Addr} {cb:Nat} {back:List (List Int)} {bC hia:Nat} {Aa:Option Addr} {ca:Nat} {ahead:List (List Int)} {v3 v4:Value} {wr w2:World} {kE kX:Nat} {cells:List Value} {q:List (List Int)}
structure RQ (w:World)(m:Nat)(fs:Nat->Value)(lp:Int)(top:Nat)(lo1 hi1:Nat)(As:Option Addr)(s:List Int)(vi:Value)(ni:Nat)(ics:List Value)(bz hib:Nat)(Ab:Option Addr)(cb:Nat)(back:List (List Int))(bC hia:Nat)(Aa:Option Addr)(ca:Nat)(ahead:List (List Int))(v3 v4:Value)(kE kX:Nat)(cells:List Value)(q:List (List Int))(wr:World):Prop where
 rb:RB w m fs lp top lo1 hi1 As s vi ni ics bz hib Ab cb back bC hia Aa ca ahead v3 v4 wr
 fq:Fl akM 1 wr (TR [aQ,tRow] kE kX wr) cells q
 bq:w.heap.size+2<=kE/\kX<=top
theorem RQ.next (h:RQ w m fs lp top lo1 hi1 As s vi ni ics bz hib Ab cb back bC hia Aa ca ahead v3 v4 kE kX cells q wr)(hmw:m<w.heap.size)(hm:Mk w2 m fs lp)(hv:Mv m wr w2):RQ w m fs lp top lo1 hi1 As s vi ni ics bz hib Ab cb back bC hia Aa ca ahead v3 v4 kE kX cells q w2:=by obtain⟨q1,q2⟩:=h.bq;exact⟨h.rb.next hmw hm hv,h.fq.moved akM.ok (TR.step hv (fun x hx=>by injection hx with hx;exact .inl (by omega))),h.bq⟩
theorem RQ.drew (h:RQ w m fs lp top lo1 hi1 As s vi ni ics bz hib Ab cb back bC hia Aa ca ahead v3 v4 kE kX cells q wr):RQ w m fs lp top lo1 hi1 As s vi ni ics bz hib Ab cb back bC hia Aa ca ahead v3 v4 kE kX cells q wr.drew:=⟨h.rb.drew,h.fq,h.bq⟩
theorem RQ.al6 (h:RQ w m fs lp top lo1 hi1 As s vi ni ics bz hib Ab cb back bC hia Aa ca ahead v3 v4 kE kX cells q wr){tY:Nat}(h1:top<=tY)(h2:tY<=wr.heap.size):RQ w m fs lp tY lo1 hi1 As s vi ni ics bz hib Ab cb back bC hia Aa ca ahead v3 v4 kE kX cells q wr:=⟨h.rb.al6 h1 h2,h.fq,h.bq.1,nt h.bq.2 h1⟩
theorem RQ.alZ (h:RQ w m fs lp top lo1 hi1 As s vi ni ics bz hib Ab cb back bC hia Aa ca ahead v3 v4 kE kX cells q wr)(hmw:m<w.heap.size)(u:Value):RQ w m fs lp top lo1 hi1 As s vi ni ics bz hib Ab cb back bC hia Aa ca ahead u v4 kE kX cells q (wr.setCell ⟨w.heap.size+1,3,none⟩ u):=by obtain⟨q1,q2⟩:=h.bq;exact⟨h.rb.alZ hmw u,h.fq.moved akM.ok (TR.step (aU (World.grownBy.refl wr (some (w.heap.size+1))) (.inl rfl) u) (fun x hx=>by injection hx with hx;exact .inl (by omega))),h.bq⟩
theorem RQ.amu (h:RQ w m fs lp top lo1 hi1 As s vi ni ics bz hib Ab cb back bC hia Aa ca ahead v3 v4 kE kX cells q wr)(hmw:m<w.heap.size)(u:Value):RQ w m fs lp top lo1 hi1 As s vi ni ics bz hib Ab cb back bC hia Aa ca ahead v3 u kE kX cells q (wr.setCell ⟨w.heap.size+1,4,none⟩ u):=by obtain⟨q1,q2⟩:=h.bq;exact⟨h.rb.amu hmw u,h.fq.moved akM.ok (TR.step (aU (World.grownBy.refl wr (some (w.heap.size+1))) (.inl rfl) u) (fun x hx=>by injection hx with hx;exact .inl (by omega))),h.bq⟩
theorem RQ.below (h:RQ w m fs lp top lo1 hi1 As s vi ni ics bz hib Ab cb back bC hia Aa ca ahead v3 v4 kE kX cells q wr)(hb:Below wr.heap.size wr w2):RQ w m fs lp top lo1 hi1 As s vi ni ics bz hib Ab cb back bC hia Aa ca ahead v3 v4 kE kX cells q w2:=by obtain⟨b0,b1,b2,b3,b4,b5,b6,b7⟩:=h.rb.bnd;have hz:=hb.size;have sp:Sp m aQ wr w2:=Sp.below hb;exact⟨⟨h.rb.rs.below hb,Frz.below akL.ok h.rb.set hb,sp.own h.rb.inn (by decide),Frz.below akM.ok h.rb.fb hb,Frz.below akM.ok h.rb.fa hb,b0,b1,b2,b3,b4,b5,b6,by omega⟩,h.fq.moved akM.ok (TR.step (aB hb none) (fun x hx=>by cases hx)),h.bq⟩
theorem RQ.more (h:RQ w m fs lp top lo1 hi1 As s vi ni ics bz hib Ab cb back bC hia Aa ca ahead v3 v4 kE kX cells q wr)(hmw:m<w.heap.size){e t:TypeId}{size:Nat}(E:ElT e t size)(h1:mQ≠e)(h2:dA≠e)(h3:tRow≠e){j n c:Nat}{A:Option Addr}{xs:List Value}{base:Nat}(hb:top<=base)(hbz:base<=wr.heap.size)
  (hv:(#[Value.slice Ab back.length cb,vi,.slice Aa ahead.length ca,v3,v4,.int .i64 0]:Array Value)[j]? =some (.slice A n c)) (ho:wr.ownsRow base e size (.slice A n c) n xs) (news:Array Value) (hnl:news.size=size) (hone:∀u∈news.toList,u.oneCell'=true) (hn:n<=1000):
  ∃A5 c5 w9,(Builtin.append_ #[t,t] t #[.slice A n c,.slice (some ⟨wr.heap.size,0,none⟩) 1 1]).run Tryz.prog (wr.alloc (.cells news e))= .ok (.slice A5 (n+1) c5) w9/\
   w9.cell? ⟨w.heap.size+1,j,none⟩=some (.slice A n c)/\w9.frozen? ⟨w.heap.size+1,j,none⟩=false/\w9.ownsRow base e size (.slice A5 (n+1) c5) (n+1) (xs++news.toList)/\RQ w m fs lp top lo1 hi1 As s vi ni ics bz hib Ab cb back bC hia Aa ca ahead v3 v4 kE kX cells q w9:=by
 obtain⟨q1,q2⟩:=h.bq;obtain⟨A5,c5,w9,hrun,aS,ax,bi⟩:=iJ E t wr base n c A xs news hnl ho hone (by omega) hbz;have h9:=h.rb.push hmw ho hb h1 h2 h3 ax;exact⟨A5,c5,w9,hrun,by rw[h9.rs.cell,hv],h9.rs.var.frozen j,aS,h9,h.fq.moved akM.ok (TR.step ax (fun x hx=> .inr (by have:=(ho.lt x hx).1;omega))),h.bq⟩
theorem row_one {w:World}{S:Bs}{cells:List Value}{q:List (List Int)}(h:Fl akM 1 w S cells q):∀u∈cells,u.oneCell'=true:=by
 intro u hu;obtain⟨i,hi⟩:=anP.1 hu;have hl:i<q.length:=by have:=(anv.1 hi).1;rw[h.1] at this;omega
 obtain⟨cs,⟨A,c,rfl,-⟩,-,h3⟩:=h.2 i _ (anw hl);have:=h3 0 _ rfl;simp only[Nat.mul_one,Nat.add_zero] at this;rw[hi] at this;injection this with this
 subst this;rfl
theorem RB.app {b1 c1:Nat}(h:RB w m fs lp top lo1 hi1 As s (.slice (some ⟨b1,0,none⟩) 1 c1) 1 ics bz hib Ab cb back bC hia Aa ca ahead v3 v4 wr)(hmw:m<w.heap.size)(hb:hi1<=b1/\(b1<bz\/hib<=b1)/\(b1<bC\/hia<=b1)){Aq:Option Addr}{cq:Nat}
  (fq:Sl akM 1 wr (TR [aQ,tRow] kE kX wr) Aq q) (hq:b1<kE) (hqz:kX<=wr.heap.size) (hq2:w.heap.size+2<=kE) (hl:q.length<=100):
  ∃A5 c5 w9 cells,(Builtin.append_ #[73,73] 73 #[.slice (some ⟨b1,0,none⟩) 1 c1,.slice Aq q.length cq]).run Tryz.prog wr= .ok (.slice A5 (1+q.length) c5) w9/\
   w9.cell? ⟨w.heap.size+1,1,none⟩=some (.slice (some ⟨b1,0,none⟩) 1 c1)/\w9.frozen? ⟨w.heap.size+1,1,none⟩=false/\
   RQ w m fs lp w9.heap.size lo1 hi1 As s (.slice A5 (1+q.length) c5) (1+q.length) (ics++cells) bz hib Ab cb back bC hia Aa ca ahead v3 v4 kE kX cells q (w9.setCell ⟨w.heap.size+1,1,none⟩ (.slice A5 (1+q.length) c5)):=by
 obtain⟨b0,b1',b2,b3,b4,b5,b6,b7⟩:=h.bnd;obtain⟨cells,hfl,hrd⟩:=fq.rdM (fun b hb=>by obtain⟨_,_,_,hk,_⟩:=hb;exact hk.lt);obtain⟨A5,c5,w9,hrun,aS,ax,bi⟩:=vZ Hw 73 wr (w.heap.size+2) 1 c1 (some ⟨b1,0,none⟩) ics h.inn wr.heap.size Aq q.length cq cells hrd (row_one hfl) (by omega) (by omega);have YB:=ax.size;have hrow:∀x,(Value.slice (some ⟨b1,0,none⟩) 1 c1).ownBlock=some x->x=b1:=fun x hx=>by simp[Value.ownBlock] at hx;exact hx.symm
 have r9:=h.rs.push hmw h.inn (by omega) (by decide) (by decide) ax;have k1:Sl akL 1 w9 (TR [aQ] lo1 hi1 w9) As s:=Frz.row akL.ok h.set ax (fun x hx=>by have:=hrow x hx;omega);have k2:Sl akM 1 w9 (TR [aQ,tRow] bz hib w9) Ab back:=Frz.row akM.ok h.fb ax (fun x hx=>by have:=hrow x hx;omega);have k3:Sl akM 1 w9 (TR [aQ,tRow] bC hia w9) Aa ahead:=Frz.row akM.ok h.fa ax (fun x hx=>by have:=hrow x hx;omega);have k4:Fl akM 1 w9 (TR [aQ,tRow] kE kX w9) cells q:=hfl.moved akM.ok (TR.step ax (fun x hx=>by have:=hrow x hx;omega));have sp:=Sp.set (m:=m) r9.var (by omega) 1 (.slice A5 (1+q.length) c5);refine⟨A5,c5,w9,cells,hrun,r9.cell 1,r9.var.frozen 1,⟨r9.put hmw 1 _,Frz.put akL.ok k1 (.inl (by omega)) 1 _,sp.own aS (by decide),Frz.put akM.ok k2 (.inl (by omega)) 1 _,Frz.put akM.ok k3 (.inl (by omega)) 1 _,?_⟩,?_,hq2,by omega⟩
 ·simp only[World.size_setCell];omega
 exact k4.moved akM.ok (TR.step (aU (World.grownBy.refl w9 (some (w.heap.size+1))) (.inl rfl) _) (fun x hx=>by injection hx with hx;exact .inl (by omega)))
end
end
end Go.Proofs.YtkijckccfookeaaGreatDoor
