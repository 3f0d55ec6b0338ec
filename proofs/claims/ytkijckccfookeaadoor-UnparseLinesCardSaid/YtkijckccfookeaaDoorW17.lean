/- Lemmas. -/
import Derived.Test.YtkijckccfookeaaDoorW14
import Derived.Test.YtkijckccfookeaaDoorMkOut
set_option linter.unusedVariables false
set_option linter.unusedSimpArgs false
set_option maxRecDepth 100000
set_option maxHeartbeats 32000000
namespace Go.Proofs.YtkijckccfookeaaDoor
open Go.RowKit
section
abbrev aW:TypeId:=78
abbrev kP:TypeId:=80
def TR (ts:List TypeId)(lo hi:Nat)(w:World):Bs:=fun b=>(lo<=b/\b<hi)/\∃cs t,Bk w b t cs/\t∈ts
theorem TR.of {ts:List TypeId}{base:Nat}{w:World}:∀b,TS ts base w b->TR ts base w.heap.size w b:=fun b h=>⟨⟨h.1,TS.lt b h⟩,h.2⟩
theorem TR.ts {ts ts':List TypeId}{lo hi base:Nat}{w:World}(h:∀t∈ts,t∈ts')(hb:base<=lo):∀b,TR ts lo hi w b->TS ts' base w b:=fun b ⟨⟨h1,h2⟩,cs,t,h3,h4⟩=>⟨by omega,cs,t,h3,h t h4⟩
section
variable {α:Type} {R:ZL α} {size:Nat} {w w':World} {ts:List TypeId} {lo hi:Nat} {A:Option Addr} {xs:List α} {cs:List Value}
theorem TR.step {row:Option Nat}(hg:w.grownBy w' row)(hr:∀x,row=some x->x<lo\/hi<=x):Same (TR ts lo hi w) w w'/\∀b,TR ts lo hi w b->TR ts lo hi w' b:=by
 have key:∀b,TR ts lo hi w b->w'.heap[b]? =w.heap[b]? :=fun b ⟨⟨h1,h2⟩,cs,t,hk,ht⟩=>hg.block b hk.lt (fun e=>by have:=hr b e.symm;omega)
 exact⟨key,fun b hb=>by
  obtain⟨h1,cs,t,hk,ht⟩:=hb;exact⟨h1,cs,t,(key b ⟨h1,cs,t,hk,ht⟩).trans hk,ht⟩⟩
theorem Zz.of (ok:R.Ok){base:Nat}(h:Sl R size w (TS ts base w) A xs):Sl R size w (TR ts base w.heap.size w) A xs:=h.mono ok TR.of
theorem Zz.below (ok:R.Ok)(h:Sl R size w (TR ts lo hi w) A xs)(hb:Below w.heap.size w w'):Sl R size w' (TR ts lo hi w') A xs:=h.moved ok (TR.step (bQ hb none) (fun x hx=>by cases hx))
theorem Zz.next (ok:R.Ok){m:Nat}(h:Sl R size w (TR ts lo hi w) A xs)(hm:m<lo)(hv:Mv m w w'):Sl R size w' (TR ts lo hi w') A xs:=h.moved ok (TR.step hv (fun x hx=>by injection hx with hx;exact .inl (by omega)))
theorem Zz.put (ok:R.Ok){g:Nat}(h:Sl R size w (TR ts lo hi w) A xs)(hg:g<lo\/hi<=g)(j:Nat)(u:Value):Sl R size (w.setCell ⟨g,j,none⟩ u) (TR ts lo hi (w.setCell ⟨g,j,none⟩ u)) A xs:=h.moved ok (TR.step (aV (World.grownBy.refl w (some g)) (.inl rfl) u) (fun x hx=>by injection hx with hx;rw[<-hx];exact hg))
theorem Zz.push (ok:R.Ok){base n:Nat}{e:TypeId}{s:Nat}{v:Value}{ys:List Value}(h:Sl R size w (TR ts lo hi w) A xs)(ho:w.ownsRow base e s v n ys)(hb:hi<=base)(hg:w.grownBy w' v.ownBlock):Sl R size w' (TR ts lo hi w') A xs:=h.moved ok (TR.step hg (fun x hx=> .inr (nt hb (ho.lt x hx).1)))
theorem Zz.row (ok:R.Ok){row:Option Nat}(h:Sl R size w (TR ts lo hi w) A xs)(hg:w.grownBy w' row)(hr:∀x,row=some x->x<lo\/hi<=x):Sl R size w' (TR ts lo hi w') A xs:=h.moved ok (TR.step hg hr)
theorem Zz.typed (ok:R.Ok){ts':List TypeId}{base:Nat}(h:Sl R size w (TR ts lo hi w) A xs)(hs:∀t∈ts,t∈ts')(hb:base<=lo):Sl R size w (TS ts' base w) A xs:=h.mono ok (TR.ts hs hb)
end
def bV:Array Value:= #[.slice none 0 0,.slice none 0 0,.slice none 0 0,.slice none 0 0,.slice none 0 0,.int .i64 0]
structure RS (w:World)(m:Nat)(fs:Nat->Value)(lp:Int)(v:Array Value)(wr:World):Prop where
 Zv:Mk wr m fs lp
 res:Bk wr w.heap.size aW bV
 var:Bk wr (w.heap.size+1) aW v
 mv:Mv m w wr
section
variable {w:World} {m:Nat} {fs:Nat->Value} {lp:Int} {v:Array Value} {wr w2:World}
theorem RS.begin (h:Mk w m fs lp):RS w m fs lp bV ((w.alloc (.cells bV aW)).alloc (.cells bV aW)):=by have b1:Below w.heap.size w ((w.alloc (.cells bV aW)).alloc (.cells bV aW)):=((aa0 _ _).alloc (ag _) _).alloc (by simp) _;refine⟨h.below b1,(Bk.new w _ _).alloc _,?_,dX (qL m w) b1⟩;have:=Bk.new (w.alloc (.cells bV aW)) aW bV;simpa using this
theorem RS.next (h:RS w m fs lp v wr){lp2:Int}(hm:Mk w2 m fs lp2)(hv:Mv m wr w2):RS w m fs lp2 v w2:=by have hs:=Sp.next h.Zv hv;exact⟨hm,hs.bk h.res (by decide),hs.bk h.var (by decide),cO h.mv hv⟩
theorem RS.below (h:RS w m fs lp v wr)(hb:Below wr.heap.size wr w2):RS w m fs lp v w2:=by have hs:Sp m ax wr w2:=Sp.below hb;exact⟨h.Zv.below hb,hs.bk h.res (by decide),hs.bk h.var (by decide),dX h.mv hb⟩
theorem RS.drew (h:RS w m fs lp v wr):RS w m fs lp v wr.drew:=h.below (aa0 _ _).drew
theorem RS.put (h:RS w m fs lp v wr)(hmw:m<w.heap.size)(j:Nat)(u:Value):RS w m fs lp (v.setIfInBounds j u) (wr.setCell ⟨w.heap.size+1,j,none⟩ u):=by have hs:Sp m aW wr (wr.setCell ⟨w.heap.size+1,j,none⟩ u):=Sp.set h.var (by omega) j u;exact⟨hs.mk h.Zv (by decide),h.res.far (by simp) _,h.var.set j u,kG h.mv (by omega) _ _⟩
theorem RS.push (h:RS w m fs lp v wr)(hmw:m<w.heap.size){base n s:Nat}{e:TypeId}{u:Value}{xs:List Value}(ho:wr.ownsRow base e s u n xs)(hb:w.heap.size<=base)(h1:gm≠e)(h2:aW≠e)(hg:wr.grownBy w2 u.ownBlock):RS w m fs lp v w2:=by have hs:Sp m e wr w2:=Sp.push ho (by omega) hg;exact⟨hs.mk h.Zv h1,hs.bk h.res h2,hs.bk h.var h2,eX h.mv ho hb hg⟩
theorem RS.cell (h:RS w m fs lp v wr)(j:Nat):wr.cell? ⟨w.heap.size+1,j,none⟩=v[j]? :=h.var.cell j
end
abbrev dL:List TypeId:=[ax,tRow,kP]
def fF (w:World)(m:Nat)(fs:Nat->Value)(lp:Int)(G:Nat)(kind:Int)(e:Ending)(w':World):Prop:=
 ∃(r:Z8) (A0 A1 A2 A3 A4:Option Addr) (c0 c1 c2 c3 c4:Nat),ZI G kind r/\e= .returned (.agg #[.slice A0 r.back.length c0,.slice A1 r.in'.length c1,.slice A2 r.ahead.length c2,.slice A3 r.out.length c3,.slice A4 r.calls.length c4,.int .i64 r.x])/\I64 r.x/\
  Sl Zw 1 w' (TS dL w.heap.size w') A0 r.back/\Sl Zw 1 w' (TS dL w.heap.size w') A1 r.in'/\Sl Zw 1 w' (TS dL w.heap.size w') A2 r.ahead/\Sl Zx 1 w' (TS dL w.heap.size w') A3 r.out/\Sl ZZ 2 w' (TS dL w.heap.size w') A4 r.calls/\Mk w' m fs lp/\Mv m w w'
section
variable {w:World} {m:Nat} {fs:Nat->Value} {lp:Int} {v:Array Value} {wr w2:World}
theorem RS.in0 (h:RS w m fs lp bV wr)(hmw:m<w.heap.size){lo:Nat}{As:Option Addr}{s:List Int}{cs:Nat}(hs:Sl Zx 1 wr (TR [ax] lo wr.heap.size wr) As s)(hlo:w.heap.size+2<=lo)(hz:w.heap.size+2<=wr.heap.size)
  (hw:(wr.setCell ⟨w.heap.size+1,1,none⟩ (.slice (some ⟨wr.heap.size,0,none⟩) 1 1)).alloc (.cells #[.slice As s.length cs] tRow)=w2):
  RS w m fs lp #[.slice none 0 0,.slice (some ⟨wr.heap.size,0,none⟩) 1 1,.slice none 0 0,.slice none 0 0,.slice none 0 0,.int .i64 0] w2/\Sl Zx 1 w2 (TR [ax] lo wr.heap.size w2) As s/\w2.ownsRow (w.heap.size+2) tRow 1 (.slice (some ⟨wr.heap.size,0,none⟩) 1 1) 1 [.slice As s.length cs]/\w2.heap.size=wr.heap.size+1:=by
 subst hw;have h2:=h.put hmw 1 (.slice (some ⟨wr.heap.size,0,none⟩) 1 1);have hb:Below (wr.setCell ⟨w.heap.size+1,1,none⟩ (.slice (some ⟨wr.heap.size,0,none⟩) 1 1)).heap.size (wr.setCell ⟨w.heap.size+1,1,none⟩ (.slice (some ⟨wr.heap.size,0,none⟩) 1 1)) ((wr.setCell ⟨w.heap.size+1,1,none⟩ (.slice (some ⟨wr.heap.size,0,none⟩) 1 1)).alloc (.cells #[.slice As s.length cs] tRow)):=(aa0 _ _).alloc (ag _) _;have ho:=kX (wr.setCell ⟨w.heap.size+1,1,none⟩ (.slice (some ⟨wr.heap.size,0,none⟩) 1 1)) (w.heap.size+2) tRow 1 1 #[.slice As s.length cs] (by simpa using hz) rfl (by omega);exact⟨h2.below hb,Zz.below Zx.ok (Zz.put Zx.ok hs (.inl (by omega)) 1 _) hb,by simpa using ho,by simp⟩
theorem RS.more (h:RS w m fs lp v wr)(hmw:m<w.heap.size){e t:TypeId}{size:Nat}(E:ElT e t size)(h1:gm≠e)(h2:aW≠e){j n c:Nat}{A:Option Addr}{xs:List Value}{base:Nat}(hb:w.heap.size<=base)(hbz:base<=wr.heap.size)(hv:v[j]? =some (.slice A n c))(ho:wr.ownsRow base e size (.slice A n c) n xs)(news:Array Value)(hnl:news.size=size)(hone:∀u∈news.toList,u.oneCell'=true)(hn:n<=1000):
  ∃A5 c5 w9,(Builtin.append_ #[t,t] t #[.slice A n c,.slice (some ⟨wr.heap.size,0,none⟩) 1 1]).run Tryd.prog (wr.alloc (.cells news e))= .ok (.slice A5 (n+1) c5) w9/\
   w9.cell? ⟨w.heap.size+1,j,none⟩=some (.slice A n c)/\w9.frozen? ⟨w.heap.size+1,j,none⟩=false/\wr.grownBy w9 (Value.slice A n c).ownBlock/\w9.ownsRow base e size (.slice A5 (n+1) c5) (n+1) (xs++news.toList)/\RS w m fs lp v w9:=by
 obtain⟨A5,c5,w9,hrun,bG,bD,nH⟩:=di E t wr base n c A xs news hnl ho hone (by omega) hbz;have h9:=h.push hmw ho hb h1 h2 bD;exact⟨A5,c5,w9,hrun,by rw[h9.cell,hv],h9.var.frozen j,bD,bG,h9⟩
end
def uy (W:World)(g:Nat)(a b c d e f:Value):World:=(((((W.setCell ⟨g,0,none⟩ a).setCell ⟨g,1,none⟩ b).setCell ⟨g,2,none⟩ c).setCell ⟨g,3,none⟩ d).setCell ⟨g,4,none⟩ e).setCell ⟨g,5,none⟩ f
theorem iL {a w:World}{g:Nat}(h:a.grownBy w (some g))(j:Nat)(u:Value):a.grownBy (w.setCell ⟨g,j,none⟩ u) (some g):=aV h (.inl rfl) u
theorem FI (W:World)(g:Nat)(a b c d e f:Value):W.grownBy (uy W g a b c d e f) (some g):=by have h0:=World.grownBy.refl W (some g);have h1:=iL h0 0 a;have h2:=iL h1 1 b;have h3:=iL h2 2 c;have h4:=iL h3 3 d;have h5:=iL h4 4 e;exact iL h5 5 f
theorem Om {W:World}{g:Nat}{t:TypeId}(hb:Bk W g t bV)(a b c d e f:Value):Bk (uy W g a b c d e f) g t #[a,b,c,d,e,f]:=by have h0:=hb.set 0 a;have h1:=h0.set 1 b;have h2:=h1.set 2 c;have h3:=h2.set 3 d;have h4:=h3.set 4 e;exact h4.set 5 f
theorem eu {w:World}{m:Nat}{fs:Nat->Value}{lp:Int}{wr:World}{G:Nat}{kind:Int}{r:Z8}{A0 A1 A2 A3 A4:Option Addr}{c0 c1 c2 c3 c4:Nat}
  (h:RS w m fs lp #[.slice A0 r.back.length c0,.slice A1 r.in'.length c1,.slice A2 r.ahead.length c2,.slice A3 r.out.length c3,.slice A4 r.calls.length c4,.int .i64 r.x] wr) (hmw:m<w.heap.size) (hok:ZI G kind r) (hx:I64 r.x)
  (s0:Sl Zw 1 wr (TS dL w.heap.size wr) A0 r.back) (s1:Sl Zw 1 wr (TS dL w.heap.size wr) A1 r.in') (s2:Sl Zw 1 wr (TS dL w.heap.size wr) A2 r.ahead) (s3:Sl Zx 1 wr (TS dL w.heap.size wr) A3 r.out) (s4:Sl ZZ 2 wr (TS dL w.heap.size wr) A4 r.calls):
  Bk (uy wr w.heap.size (.slice A0 r.back.length c0) (.slice A1 r.in'.length c1) (.slice A2 r.ahead.length c2) (.slice A3 r.out.length c3) (.slice A4 r.calls.length c4) (.int .i64 r.x)) w.heap.size aW #[.slice A0 r.back.length c0,.slice A1 r.in'.length c1,.slice A2 r.ahead.length c2,.slice A3 r.out.length c3,.slice A4 r.calls.length c4,.int .i64 r.x]/\
   fF w m fs lp G kind (.returned (.agg #[.slice A0 r.back.length c0,.slice A1 r.in'.length c1,.slice A2 r.ahead.length c2,.slice A3 r.out.length c3,.slice A4 r.calls.length c4,.int .i64 r.x])) (uy wr w.heap.size (.slice A0 r.back.length c0) (.slice A1 r.in'.length c1) (.slice A2 r.ahead.length c2) (.slice A3 r.out.length c3) (.slice A4 r.calls.length c4) (.int .i64 r.x)):=by
 have hg:=FI wr w.heap.size (.slice A0 r.back.length c0) (.slice A1 r.in'.length c1) (.slice A2 r.ahead.length c2) (.slice A3 r.out.length c3) (.slice A4 r.calls.length c4) (.int .i64 r.x);have hbk:=Om h.res (.slice A0 r.back.length c0) (.slice A1 r.in'.length c1) (.slice A2 r.ahead.length c2) (.slice A3 r.out.length c3) (.slice A4 r.calls.length c4) (.int .i64 r.x);generalize uy wr w.heap.size (.slice A0 r.back.length c0) (.slice A1 r.in'.length c1) (.slice A2 r.ahead.length c2) (.slice A3 r.out.length c3) (.slice A4 r.calls.length c4) (.int .i64 r.x)=W at*
 have sp:Sp m aW wr W:=⟨_,hg,fun x hx=>by injection hx with hx;subst hx;exact⟨by omega,_,h.res⟩⟩
 exact⟨hbk,r,A0,A1,A2,A3,A4,c0,c1,c2,c3,c4,hok,rfl,hx,sp.sl Zw.ok (by decide) s0,sp.sl Zw.ok (by decide) s1,sp.sl Zw.ok (by decide) s2,sp.sl Zx.ok (by decide) s3,sp.sl ZZ.ok (by decide) s4,sp.mk h.Zv (by decide),kF h.mv hg (fun x hx=>by injection hx with hx;exact .inl (by omega))⟩
structure RB (w:World)(m:Nat)(fs:Nat->Value)(lp:Int)(top:Nat)(lo1 hi1:Nat)(As:Option Addr)(s:List Int)(vi:Value)(ni:Nat)(ics:List Value)(aC hib:Nat)(Ab:Option Addr)(cb:Nat)(back:List (List Int))(aB hia:Nat)(Aa:Option Addr)(ca:Nat)(ahead:List (List Int))(v3 v4:Value)(wr:World):Prop where
 rs:RS w m fs lp #[.slice Ab back.length cb,vi,.slice Aa ahead.length ca,v3,v4,.int .i64 0] wr
 set:Sl Zx 1 wr (TR [ax] lo1 hi1 wr) As s
 inn:wr.ownsRow (w.heap.size+2) tRow 1 vi ni ics
 fb:Sl Zw 1 wr (TR [ax,tRow] aC hib wr) Ab back
 fa:Sl Zw 1 wr (TR [ax,tRow] aB hia wr) Aa ahead
 bnd:w.heap.size+2<=top/\w.heap.size+2<=lo1/\hi1<=top/\w.heap.size+2<=aC/\hib<=top/\w.heap.size+2<=aB/\hia<=top/\top<=wr.heap.size
section
variable {w:World} {m:Nat} {fs:Nat->Value} {lp:Int} {top lo1 hi1:Nat} {As:Option Addr} {s:List Int} {vi:Value} {ni:Nat} {ics:List Value} {aC hib:Nat} {Ab:Option Addr} {cb:Nat} {back:List (List Int)} {aB hia:Nat} {Aa:Option Addr} {ca:Nat} {ahead:List (List Int)} {v3 v4:Value} {wr w2:World}
theorem RB.next (h:RB w m fs lp top lo1 hi1 As s vi ni ics aC hib Ab cb back aB hia Aa ca ahead v3 v4 wr)(hmw:m<w.heap.size)(hm:Mk w2 m fs lp)(hv:Mv m wr w2):RB w m fs lp top lo1 hi1 As s vi ni ics aC hib Ab cb back aB hia Aa ca ahead v3 v4 w2:=by obtain⟨b0,b1,b2,b3,b4,b5,b6,b7⟩:=h.bnd;have hz:=hv.size;exact⟨h.rs.next hm hv,Zz.next Zx.ok h.set (by omega) hv,(Sp.next h.rs.Zv hv).own h.inn (by decide),Zz.next Zw.ok h.fb (by omega) hv,Zz.next Zw.ok h.fa (by omega) hv,b0,b1,b2,b3,b4,b5,b6,by omega⟩
theorem RB.drew (h:RB w m fs lp top lo1 hi1 As s vi ni ics aC hib Ab cb back aB hia Aa ca ahead v3 v4 wr):RB w m fs lp top lo1 hi1 As s vi ni ics aC hib Ab cb back aB hia Aa ca ahead v3 v4 wr.drew:=⟨h.rs.drew,h.set,h.inn,h.fb,h.fa,h.bnd⟩
theorem RB.aay (h:RB w m fs lp top lo1 hi1 As s vi ni ics aC hib Ab cb back aB hia Aa ca ahead v3 v4 wr){jW:Nat}(h1:top<=jW)(h2:jW<=wr.heap.size):RB w m fs lp jW lo1 hi1 As s vi ni ics aC hib Ab cb back aB hia Aa ca ahead v3 v4 wr:=by obtain⟨b0,b1,b2,b3,b4,b5,b6,b7⟩:=h.bnd;exact⟨h.rs,h.set,h.inn,h.fb,h.fa,by omega,b1,by omega,b3,by omega,b5,by omega,h2⟩
theorem RB.push (h:RB w m fs lp top lo1 hi1 As s vi ni ics aC hib Ab cb back aB hia Aa ca ahead v3 v4 wr)(hmw:m<w.heap.size){base n sz:Nat}{e:TypeId}{u:Value}{xs:List Value}(ho:wr.ownsRow base e sz u n xs)(hb:top<=base)(h1:gm≠e)(h2:aW≠e)(h3:tRow≠e)(hg:wr.grownBy w2 u.ownBlock):RB w m fs lp top lo1 hi1 As s vi ni ics aC hib Ab cb back aB hia Aa ca ahead v3 v4 w2:=by
 obtain⟨b0,b1,b2,b3,b4,b5,b6,b7⟩:=h.bnd;have hz:=hg.size;have hz0:=h.rs.mv.size;have hb0:w.heap.size<=base:=by omega
 exact⟨h.rs.push hmw ho hb0 h1 h2 hg,Zz.push Zx.ok h.set ho (by omega) hg,(Sp.push (m:=m) ho (by omega) hg).own h.inn h3,Zz.push Zw.ok h.fb ho (by omega) hg,Zz.push Zw.ok h.fa ho (by omega) hg,b0,b1,b2,b3,b4,b5,b6,by omega⟩
theorem RB.aau (h:RB w m fs lp top lo1 hi1 As s vi ni ics aC hib Ab cb back aB hia Aa ca ahead v3 v4 wr)(hmw:m<w.heap.size)(u:Value):RB w m fs lp top lo1 hi1 As s vi ni ics aC hib Ab cb back aB hia Aa ca ahead u v4 (wr.setCell ⟨w.heap.size+1,3,none⟩ u):=by obtain⟨b0,b1,b2,b3,b4,b5,b6,b7⟩:=h.bnd;exact⟨h.rs.put hmw 3 u,Zz.put Zx.ok h.set (.inl (by omega)) 3 u,(Sp.set (m:=m) h.rs.var (by omega) 3 u).own h.inn (by decide),Zz.put Zw.ok h.fb (.inl (by omega)) 3 u,Zz.put Zw.ok h.fa (.inl (by omega)) 3 u,b0,b1,b2,b3,b4,b5,b6,by simpa using b7⟩
theorem RB.aaH (h:RB w m fs lp top lo1 hi1 As s vi ni ics aC hib Ab cb back aB hia Aa ca ahead v3 v4 wr)(hmw:m<w.heap.size)(u:Value):RB w m fs lp top lo1 hi1 As s vi ni ics aC hib Ab cb back aB hia Aa ca ahead v3 u (wr.setCell ⟨w.heap.size+1,4,none⟩ u):=by obtain⟨b0,b1,b2,b3,b4,b5,b6,b7⟩:=h.bnd;exact⟨h.rs.put hmw 4 u,Zz.put Zx.ok h.set (.inl (by omega)) 4 u,(Sp.set (m:=m) h.rs.var (by omega) 4 u).own h.inn (by decide),Zz.put Zw.ok h.fb (.inl (by omega)) 4 u,Zz.put Zw.ok h.fa (.inl (by omega)) 4 u,b0,b1,b2,b3,b4,b5,b6,by simpa using b7⟩
theorem RB.more (h:RB w m fs lp top lo1 hi1 As s vi ni ics aC hib Ab cb back aB hia Aa ca ahead v3 v4 wr)(hmw:m<w.heap.size){e t:TypeId}{size:Nat}(E:ElT e t size)(h1:gm≠e)(h2:aW≠e)(h3:tRow≠e){j n c:Nat}{A:Option Addr}{xs:List Value}{base:Nat}(hb:top<=base)(hbz:base<=wr.heap.size)
  (hv:(#[Value.slice Ab back.length cb,vi,.slice Aa ahead.length ca,v3,v4,.int .i64 0]:Array Value)[j]? =some (.slice A n c)) (ho:wr.ownsRow base e size (.slice A n c) n xs) (news:Array Value) (hnl:news.size=size) (hone:∀u∈news.toList,u.oneCell'=true) (hn:n<=1000):
  ∃A5 c5 w9,(Builtin.append_ #[t,t] t #[.slice A n c,.slice (some ⟨wr.heap.size,0,none⟩) 1 1]).run Tryd.prog (wr.alloc (.cells news e))= .ok (.slice A5 (n+1) c5) w9/\
   w9.cell? ⟨w.heap.size+1,j,none⟩=some (.slice A n c)/\w9.frozen? ⟨w.heap.size+1,j,none⟩=false/\w9.ownsRow base e size (.slice A5 (n+1) c5) (n+1) (xs++news.toList)/\RB w m fs lp top lo1 hi1 As s vi ni ics aC hib Ab cb back aB hia Aa ca ahead v3 v4 w9:=by
 obtain⟨A5,c5,w9,hrun,bG,bD,nH⟩:=di E t wr base n c A xs news hnl ho hone (by omega) hbz;have h9:=h.push hmw ho hb h1 h2 h3 bD;exact⟨A5,c5,w9,hrun,by rw[h9.rs.cell,hv],h9.rs.var.frozen j,bG,h9⟩
end
theorem G7:(Tryd.prog.info? aW).map (·.size)=some 6:=by kernel_rfl
theorem bC {W:World}{g:Nat}{cs:Array Value}{tmps:Array Value}(hb:Bk W g aW cs)(hsz:cs.size=6)(h2:tmps.getD 6 undef= .pointer (some ⟨g,0,none⟩)):(results Tryd.f64 tmps).run Tryd.prog W= .ok (.agg cs) W:=by rw[iY (fn:=Tryd.f64) (p:=6) (ty:=aW) rfl,h2];have:=run_loadVar_row (P:=Tryd.prog) W g aW aW cs (0,0) _ hb Tryd.underlying78 rfl (by rw[G7,hsz]);simp[asAddr,Result.andThen,this]
end
section
abbrev Fg (lo hi:Nat)(w w':World):Prop:=∀b,lo<=b->b<hi->w'.heap[b]? =w.heap[b]?
structure ZN (lo hi:Nat)(P:World->Prop)(w:World):Prop where
 now:P w
 keep:∀w w',P w->Fg lo hi w w'->P w'
 top:hi<=w.heap.size
section
variable {lo hi:Nat} {P Q:World->Prop} {w w':World} {m:Nat}
theorem ZN.step (h:ZN lo hi P w)(hz:w.heap.size<=w'.heap.size)(he:Fg lo hi w w'):ZN lo hi P w':=⟨h.keep _ _ h.now he,h.keep,nt h.top hz⟩
theorem ZN.row {row:Option Nat}(h:ZN lo hi P w)(hg:w.grownBy w' row)(hr:∀x,row=some x->x<lo\/hi<=x):ZN lo hi P w':=h.step hg.size fun b h1 h2=>hg.block b (by have:=h.top;omega) (fun e=>by have:=hr b e.symm;omega)
theorem ZN.next (h:ZN lo hi P w)(hm:m<lo)(hv:Mv m w w'):ZN lo hi P w':=h.row hv (fun x hx=>by injection hx with hx;exact .inl (by omega))
theorem ZN.below (h:ZN lo hi P w)(hb:Below w.heap.size w w'):ZN lo hi P w':=h.row (bQ hb none) (fun x hx=>by cases hx)
theorem ZN.drew (h:ZN lo hi P w):ZN lo hi P w.drew:=h.below (aa0 _ _).drew
theorem ZN.put (h:ZN lo hi P w){g:Nat}(hg:g<lo\/hi<=g)(j:Nat)(u:Value):ZN lo hi P (w.setCell ⟨g,j,none⟩ u):=h.row (aV (World.grownBy.refl w (some g)) (.inl rfl) u) (fun x hx=>by injection hx with hx;rw[<-hx];exact hg)
theorem ZN.push {base n s:Nat}{e:TypeId}{v:Value}{ys:List Value}(h:ZN lo hi P w)(ho:w.ownsRow base e s v n ys)(hb:hi<=base)(hg:w.grownBy w' v.ownBlock):ZN lo hi P w':=h.row hg (fun x hx=> .inr (nt hb (ho.lt x hx).1))
theorem ZN.wide (h:ZN lo hi P w){lo2 hi2:Nat}(h1:lo2<=lo)(h2:hi<=hi2)(h3:hi2<=w.heap.size):ZN lo2 hi2 P w:=⟨h.now,fun a b ha he=>h.keep a b ha (fun x h4 h5=>he x (by omega) (by omega)),h3⟩
theorem ZN.and (h:ZN lo hi P w)(k:ZN lo hi Q w):ZN lo hi (fun w=>P w/\Q w) w:=⟨⟨h.now,k.now⟩,fun a b ha he=>⟨h.keep a b ha.1 he,k.keep a b ha.2 he⟩,h.top⟩
theorem ZN.true (h:hi<=w.heap.size):ZN lo hi (fun _=>True) w:=⟨trivial,fun _ _ _ _=>trivial,h⟩
theorem ZN.map (h:ZN lo hi P w)(hm:∀w,P w->Q w)(hk:∀w w',Q w->Fg lo hi w w'->Q w'):ZN lo hi Q w:=⟨hm w h.now,hk,h.top⟩
theorem TR.eqb {ts:List TypeId}(he:Fg lo hi w w'):Same (TR ts lo hi w) w w'/\∀b,TR ts lo hi w b->TR ts lo hi w' b:=by
 have key:∀b,TR ts lo hi w b->w'.heap[b]? =w.heap[b]? :=fun b hb=>he b hb.1.1 hb.1.2
 exact⟨key,fun b hb=>by
  obtain⟨h1,cs,t,hk,ht⟩:=hb;exact⟨h1,cs,t,(key b ⟨h1,cs,t,hk,ht⟩).trans hk,ht⟩⟩
variable {α:Type} {R:ZL α} {size:Nat} {ts:List TypeId} {A:Option Addr} {xs:List α} {cs:List Value}
theorem ZN.sl (ok:R.Ok)(h:Sl R size w (TR ts lo hi w) A xs)(ht:hi<=w.heap.size):ZN lo hi (fun w=>Sl R size w (TR ts lo hi w) A xs) w:=⟨h,fun _ _ ha he=>ha.moved ok (TR.eqb he),ht⟩
theorem ZN.fl (ok:R.Ok)(h:Fl R size w (TR ts lo hi w) cs xs)(ht:hi<=w.heap.size):ZN lo hi (fun w=>Fl R size w (TR ts lo hi w) cs xs) w:=⟨h,fun _ _ ha he=>ha.moved ok (TR.eqb he),ht⟩
theorem TR.sub {ts':List TypeId}{lo' hi':Nat}(h:∀t∈ts,t∈ts')(h1:lo'<=lo)(h2:hi<=hi'):∀b,TR ts lo hi w b->TR ts' lo' hi' w b:=fun b ⟨⟨h3,h4⟩,cs,t,h5,h6⟩=>⟨⟨by omega,by omega⟩,cs,t,h5,h t h6⟩
theorem TR.lw:∀b,TR ts lo hi w b->b<w.heap.size:=fun b ⟨_,_,_,h,_⟩=>h.lt
theorem TR.aaA {base:Nat}(h:lo<=base):∀b,TS ts base w b->TR ts lo w.heap.size w b:=fun b hb=>⟨⟨nt h hb.1,TS.lt b hb⟩,hb.2⟩
theorem nC {e:TypeId}{base n c:Nat}(h:w.ownsRow base e size (.slice A n c) n cs)(hf:Fl R size w (TR ts lo w.heap.size w) cs xs)(he:e∈ts)(hb:lo<=base)(hsz:0<size):Sl R size w (TR ts lo w.heap.size w) A xs:=
 Sl.aaF h hf (fun g hg=>by
  obtain⟨cur,hk⟩:=dh h g hg;exact⟨⟨by have:=(h.lt g hg).1;omega,hk.lt⟩,cur,e,hk,he⟩) hsz
end
structure Mv2 (m:Nat)(row:Option Nat)(w w':World):Prop where
 os:w'.os=w.os
 tape:w'.tape=w.tape
 output:w'.output=w.output
 size:w.heap.size<=w'.heap.size
 block:∀i,i<w.heap.size->i≠m->row≠some i->w'.heap[i]? =w.heap[i]?
section
variable {m:Nat} {row:Option Nat} {w w' w2:World}
theorem Mv.two (h:Mv m w w'):Mv2 m row w w':=⟨h.os,h.tape,h.output,h.size,fun i h1 h2 _=>h.block i h1 (fun e=>by injection e with e;exact h2 e)⟩
theorem Mv2.step {r:Option Nat}(h:Mv2 m row w w')(hg:w'.grownBy w2 r)(hr:∀x,r=some x->w.heap.size<=x\/x=m\/row=some x):Mv2 m row w w2:=
 ⟨hg.os.trans h.os,hg.tape.trans h.tape,hg.output.trans h.output,nt h.size hg.size,fun i h1 h2 h3=>(hg.block i (aa9 h1 h.size) (fun e=>by
  rcases hr i e.symm with h4|h4|h4
  ·omega
  ·exact h2 h4
  exact h3 h4)).trans (h.block i h1 h2 h3)⟩
theorem Mv2.fz {lo hi:Nat}{P:World->Prop}(h:Mv2 m row w w')(hm:m<lo)(hr:∀x,row=some x->hi<=x)(k:ZN lo hi P w):ZN lo hi P w':=k.step h.size fun b h1 h2=>h.block b (by have:=k.top;omega) (by omega) (fun e=>by have:=hr b e;omega)
end
end
section
section
variable {w:World} {m:Nat} {fs:Nat->Value} {lp:Int} {top lo1 hi1:Nat} {As:Option Addr} {s:List Int} {vi:Value} {ni:Nat} {ics:List Value} {aC hib:Nat} {Ab:Option Addr} {cb:Nat} {back:List (List Int)} {aB hia:Nat} {Aa:Option Addr} {ca:Nat} {ahead:List (List Int)} {v3 v4:Value} {wr w2:World} {eU eY:Nat} {cells:List Value} {q:List (List Int)}
structure RQ (w:World)(m:Nat)(fs:Nat->Value)(lp:Int)(top:Nat)(lo1 hi1:Nat)(As:Option Addr)(s:List Int)(vi:Value)(ni:Nat)(ics:List Value)(aC hib:Nat)(Ab:Option Addr)(cb:Nat)(back:List (List Int))(aB hia:Nat)(Aa:Option Addr)(ca:Nat)(ahead:List (List Int))(v3 v4:Value)(eU eY:Nat)(cells:List Value)(q:List (List Int))(wr:World):Prop where
 rb:RB w m fs lp top lo1 hi1 As s vi ni ics aC hib Ab cb back aB hia Aa ca ahead v3 v4 wr
 fq:Fl Zw 1 wr (TR [ax,tRow] eU eY wr) cells q
 bq:w.heap.size+2<=eU/\eY<=top
theorem RQ.next (h:RQ w m fs lp top lo1 hi1 As s vi ni ics aC hib Ab cb back aB hia Aa ca ahead v3 v4 eU eY cells q wr)(hmw:m<w.heap.size)(hm:Mk w2 m fs lp)(hv:Mv m wr w2):RQ w m fs lp top lo1 hi1 As s vi ni ics aC hib Ab cb back aB hia Aa ca ahead v3 v4 eU eY cells q w2:=by obtain⟨q1,q2⟩:=h.bq;exact⟨h.rb.next hmw hm hv,h.fq.moved Zw.ok (TR.step hv (fun x hx=>by injection hx with hx;exact .inl (by omega))),h.bq⟩
theorem RQ.drew (h:RQ w m fs lp top lo1 hi1 As s vi ni ics aC hib Ab cb back aB hia Aa ca ahead v3 v4 eU eY cells q wr):RQ w m fs lp top lo1 hi1 As s vi ni ics aC hib Ab cb back aB hia Aa ca ahead v3 v4 eU eY cells q wr.drew:=⟨h.rb.drew,h.fq,h.bq⟩
theorem RQ.aay (h:RQ w m fs lp top lo1 hi1 As s vi ni ics aC hib Ab cb back aB hia Aa ca ahead v3 v4 eU eY cells q wr){jW:Nat}(h1:top<=jW)(h2:jW<=wr.heap.size):RQ w m fs lp jW lo1 hi1 As s vi ni ics aC hib Ab cb back aB hia Aa ca ahead v3 v4 eU eY cells q wr:=⟨h.rb.aay h1 h2,h.fq,h.bq.1,nt h.bq.2 h1⟩
theorem RQ.aau (h:RQ w m fs lp top lo1 hi1 As s vi ni ics aC hib Ab cb back aB hia Aa ca ahead v3 v4 eU eY cells q wr)(hmw:m<w.heap.size)(u:Value):RQ w m fs lp top lo1 hi1 As s vi ni ics aC hib Ab cb back aB hia Aa ca ahead u v4 eU eY cells q (wr.setCell ⟨w.heap.size+1,3,none⟩ u):=by obtain⟨q1,q2⟩:=h.bq;exact⟨h.rb.aau hmw u,h.fq.moved Zw.ok (TR.step (aV (World.grownBy.refl wr (some (w.heap.size+1))) (.inl rfl) u) (fun x hx=>by injection hx with hx;exact .inl (by omega))),h.bq⟩
theorem RQ.aaH (h:RQ w m fs lp top lo1 hi1 As s vi ni ics aC hib Ab cb back aB hia Aa ca ahead v3 v4 eU eY cells q wr)(hmw:m<w.heap.size)(u:Value):RQ w m fs lp top lo1 hi1 As s vi ni ics aC hib Ab cb back aB hia Aa ca ahead v3 u eU eY cells q (wr.setCell ⟨w.heap.size+1,4,none⟩ u):=by obtain⟨q1,q2⟩:=h.bq;exact⟨h.rb.aaH hmw u,h.fq.moved Zw.ok (TR.step (aV (World.grownBy.refl wr (some (w.heap.size+1))) (.inl rfl) u) (fun x hx=>by injection hx with hx;exact .inl (by omega))),h.bq⟩
theorem RQ.below (h:RQ w m fs lp top lo1 hi1 As s vi ni ics aC hib Ab cb back aB hia Aa ca ahead v3 v4 eU eY cells q wr)(hb:Below wr.heap.size wr w2):RQ w m fs lp top lo1 hi1 As s vi ni ics aC hib Ab cb back aB hia Aa ca ahead v3 v4 eU eY cells q w2:=by obtain⟨b0,b1,b2,b3,b4,b5,b6,b7⟩:=h.rb.bnd;have hz:=hb.size;have sp:Sp m ax wr w2:=Sp.below hb;exact⟨⟨h.rb.rs.below hb,Zz.below Zx.ok h.rb.set hb,sp.own h.rb.inn (by decide),Zz.below Zw.ok h.rb.fb hb,Zz.below Zw.ok h.rb.fa hb,b0,b1,b2,b3,b4,b5,b6,by omega⟩,h.fq.moved Zw.ok (TR.step (bQ hb none) (fun x hx=>by cases hx)),h.bq⟩
theorem RQ.more (h:RQ w m fs lp top lo1 hi1 As s vi ni ics aC hib Ab cb back aB hia Aa ca ahead v3 v4 eU eY cells q wr)(hmw:m<w.heap.size){e t:TypeId}{size:Nat}(E:ElT e t size)(h1:gm≠e)(h2:aW≠e)(h3:tRow≠e){j n c:Nat}{A:Option Addr}{xs:List Value}{base:Nat}(hb:top<=base)(hbz:base<=wr.heap.size)
  (hv:(#[Value.slice Ab back.length cb,vi,.slice Aa ahead.length ca,v3,v4,.int .i64 0]:Array Value)[j]? =some (.slice A n c)) (ho:wr.ownsRow base e size (.slice A n c) n xs) (news:Array Value) (hnl:news.size=size) (hone:∀u∈news.toList,u.oneCell'=true) (hn:n<=1000):
  ∃A5 c5 w9,(Builtin.append_ #[t,t] t #[.slice A n c,.slice (some ⟨wr.heap.size,0,none⟩) 1 1]).run Tryd.prog (wr.alloc (.cells news e))= .ok (.slice A5 (n+1) c5) w9/\
   w9.cell? ⟨w.heap.size+1,j,none⟩=some (.slice A n c)/\w9.frozen? ⟨w.heap.size+1,j,none⟩=false/\w9.ownsRow base e size (.slice A5 (n+1) c5) (n+1) (xs++news.toList)/\RQ w m fs lp top lo1 hi1 As s vi ni ics aC hib Ab cb back aB hia Aa ca ahead v3 v4 eU eY cells q w9:=by
 obtain⟨q1,q2⟩:=h.bq;obtain⟨A5,c5,w9,hrun,bG,bD,nH⟩:=di E t wr base n c A xs news hnl ho hone (by omega) hbz;have h9:=h.rb.push hmw ho hb h1 h2 h3 bD;exact⟨A5,c5,w9,hrun,by rw[h9.rs.cell,hv],h9.rs.var.frozen j,bG,h9,h.fq.moved Zw.ok (TR.step bD (fun x hx=> .inr (by have:=(ho.lt x hx).1;omega))),h.bq⟩
theorem row_one {w:World}{S:Bs}{cells:List Value}{q:List (List Int)}(h:Fl Zw 1 w S cells q):∀u∈cells,u.oneCell'=true:=by
 intro u hu;obtain⟨i,hi⟩:=abk.1 hu;have hl:i<q.length:=by have:=(aa2.1 hi).1;rw[h.1] at this;omega
 obtain⟨cs,⟨A,c,rfl,-⟩,-,h3⟩:=h.2 i _ (aa3 hl);have:=h3 0 _ rfl;simp only[Nat.mul_one,Nat.add_zero] at this;rw[hi] at this;injection this with this
 subst this;rfl
theorem RB.app {b1 c1:Nat}(h:RB w m fs lp top lo1 hi1 As s (.slice (some ⟨b1,0,none⟩) 1 c1) 1 ics aC hib Ab cb back aB hia Aa ca ahead v3 v4 wr)(hmw:m<w.heap.size)(hb:hi1<=b1/\(b1<aC\/hib<=b1)/\(b1<aB\/hia<=b1)){Aq:Option Addr}{cq:Nat}
  (fq:Sl Zw 1 wr (TR [ax,tRow] eU eY wr) Aq q) (hq:b1<eU) (hqz:eY<=wr.heap.size) (hq2:w.heap.size+2<=eU) (hl:q.length<=100):
  ∃A5 c5 w9 cells,(Builtin.append_ #[75,75] 75 #[.slice (some ⟨b1,0,none⟩) 1 c1,.slice Aq q.length cq]).run Tryd.prog wr= .ok (.slice A5 (1+q.length) c5) w9/\
   w9.cell? ⟨w.heap.size+1,1,none⟩=some (.slice (some ⟨b1,0,none⟩) 1 c1)/\w9.frozen? ⟨w.heap.size+1,1,none⟩=false/\
   RQ w m fs lp w9.heap.size lo1 hi1 As s (.slice A5 (1+q.length) c5) (1+q.length) (ics++cells) aC hib Ab cb back aB hia Aa ca ahead v3 v4 eU eY cells q (w9.setCell ⟨w.heap.size+1,1,none⟩ (.slice A5 (1+q.length) c5)):=by
 obtain⟨b0,b1',b2,b3,b4,b5,b6,b7⟩:=h.bnd;obtain⟨cells,hfl,hrd⟩:=fq.rdM (fun b hb=>by obtain⟨_,_,_,hk,_⟩:=hb;exact hk.lt);obtain⟨A5,c5,w9,hrun,bG,bD,nH⟩:=vk Dx 75 wr (w.heap.size+2) 1 c1 (some ⟨b1,0,none⟩) ics h.inn wr.heap.size Aq q.length cq cells hrd (row_one hfl) (by omega) (by omega);have Gu:=bD.size;have hrow:∀x,(Value.slice (some ⟨b1,0,none⟩) 1 c1).ownBlock=some x->x=b1:=fun x hx=>by simp[Value.ownBlock] at hx;exact hx.symm
 have r9:=h.rs.push hmw h.inn (by omega) (by decide) (by decide) bD;have k1:Sl Zx 1 w9 (TR [ax] lo1 hi1 w9) As s:=Zz.row Zx.ok h.set bD (fun x hx=>by have:=hrow x hx;omega);have k2:Sl Zw 1 w9 (TR [ax,tRow] aC hib w9) Ab back:=Zz.row Zw.ok h.fb bD (fun x hx=>by have:=hrow x hx;omega);have k3:Sl Zw 1 w9 (TR [ax,tRow] aB hia w9) Aa ahead:=Zz.row Zw.ok h.fa bD (fun x hx=>by have:=hrow x hx;omega);have k4:Fl Zw 1 w9 (TR [ax,tRow] eU eY w9) cells q:=hfl.moved Zw.ok (TR.step bD (fun x hx=>by have:=hrow x hx;omega));have sp:=Sp.set (m:=m) r9.var (by omega) 1 (.slice A5 (1+q.length) c5);refine⟨A5,c5,w9,cells,hrun,r9.cell 1,r9.var.frozen 1,⟨r9.put hmw 1 _,Zz.put Zx.ok k1 (.inl (by omega)) 1 _,sp.own bG (by decide),Zz.put Zw.ok k2 (.inl (by omega)) 1 _,Zz.put Zw.ok k3 (.inl (by omega)) 1 _,?_⟩,?_,hq2,by omega⟩
 ·simp only[World.size_setCell];omega
 exact k4.moved Zw.ok (TR.step (aV (World.grownBy.refl w9 (some (w.heap.size+1))) (.inl rfl) _) (fun x hx=>by injection hx with hx;exact .inl (by omega)))
end
end
end Go.Proofs.YtkijckccfookeaaDoor
