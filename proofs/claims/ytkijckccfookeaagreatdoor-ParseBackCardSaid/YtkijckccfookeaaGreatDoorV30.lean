/- Lemmas. -/
import Derived.Test.YtkijckccfookeaaGreatDoorMkOut
import Derived.Test.YtkijckccfookeaaGreatDoorV29
set_option linter.unusedVariables false
set_option linter.unusedSimpArgs false
set_option maxRecDepth 100000
set_option maxHeartbeats 32000000
namespace Go.Proofs.YtkijckccfookeaaGreatDoor
open Go.RowKit
section
abbrev dC:TypeId:=76
abbrev vO:TypeId:=95
def TR (ts:List TypeId)(lo hi:Nat)(w:World):Bs:=fun b=>(lo<=b/\b<hi)/\∃cs t,Bk w b t cs/\t∈ts
theorem TR.of {ts:List TypeId}{base:Nat}{w:World}:∀b,TS ts base w b->TR ts base w.heap.size w b:=fun b h=>⟨⟨h.1,TS.lt b h⟩,h.2⟩
theorem TR.ts {ts ts':List TypeId}{lo hi base:Nat}{w:World}(h:∀t∈ts,t∈ts')(hb:base<=lo):∀b,TR ts lo hi w b->TS ts' base w b:=fun b ⟨⟨h1,h2⟩,cs,t,h3,h4⟩=>⟨by omega,cs,t,h3,h t h4⟩
section
variable {α:Type} {R:Rel α} {size:Nat} {w w':World} {ts:List TypeId} {lo hi:Nat} {A:Option Addr} {xs:List α} {cs:List Value}
theorem TR.step {row:Option Nat}(hg:w.grownBy w' row)(hr:∀x,row=some x->x<lo\/hi<=x):Same (TR ts lo hi w) w w'/\∀b,TR ts lo hi w b->TR ts lo hi w' b:=by
 have key:∀b,TR ts lo hi w b->w'.heap[b]? =w.heap[b]? :=fun b ⟨⟨h1,h2⟩,cs,t,hk,ht⟩=>hg.block b hk.lt (fun e=>by have:=hr b e.symm;omega)
 exact⟨key,fun b hb=>by
  obtain⟨h1,cs,t,hk,ht⟩:=hb;exact⟨h1,cs,t,(key b ⟨h1,cs,t,hk,ht⟩).trans hk,ht⟩⟩
theorem Frz.of (ok:R.Ok){base:Nat}(h:Sl R size w (TS ts base w) A xs):Sl R size w (TR ts base w.heap.size w) A xs:=h.mono ok TR.of
theorem Frz.below (ok:R.Ok)(h:Sl R size w (TR ts lo hi w) A xs)(hb:Below w.heap.size w w'):Sl R size w' (TR ts lo hi w') A xs:=h.moved ok (TR.step (aH hb none) (fun x hx=>by cases hx))
theorem Frz.next (ok:R.Ok){m:Nat}(h:Sl R size w (TR ts lo hi w) A xs)(hm:m<lo)(hv:Mv m w w'):Sl R size w' (TR ts lo hi w') A xs:=h.moved ok (TR.step hv (fun x hx=>by injection hx with hx;exact .inl (by omega)))
theorem Frz.put (ok:R.Ok){g:Nat}(h:Sl R size w (TR ts lo hi w) A xs)(hg:g<lo\/hi<=g)(j:Nat)(u:Value):Sl R size (w.setCell ⟨g,j,none⟩ u) (TR ts lo hi (w.setCell ⟨g,j,none⟩ u)) A xs:=h.moved ok (TR.step (bn (World.grownBy.refl w (some g)) (.inl rfl) u) (fun x hx=>by injection hx with hx;rw[<-hx];exact hg))
theorem Frz.push (ok:R.Ok){base n:Nat}{e:TypeId}{s:Nat}{v:Value}{ys:List Value}(h:Sl R size w (TR ts lo hi w) A xs)(ho:w.ownsRow base e s v n ys)(hb:hi<=base)(hg:w.grownBy w' v.ownBlock):Sl R size w' (TR ts lo hi w') A xs:=h.moved ok (TR.step hg (fun x hx=> .inr (nt hb (ho.lt x hx).1)))
theorem Frz.row (ok:R.Ok){row:Option Nat}(h:Sl R size w (TR ts lo hi w) A xs)(hg:w.grownBy w' row)(hr:∀x,row=some x->x<lo\/hi<=x):Sl R size w' (TR ts lo hi w') A xs:=h.moved ok (TR.step hg hr)
theorem Frz.typed (ok:R.Ok){ts':List TypeId}{base:Nat}(h:Sl R size w (TR ts lo hi w) A xs)(hs:∀t∈ts,t∈ts')(hb:base<=lo):Sl R size w (TS ts' base w) A xs:=h.mono ok (TR.ts hs hb)
end
def fO:Array Value:= #[.slice none 0 0,.slice none 0 0,.slice none 0 0,.slice none 0 0,.slice none 0 0,.int .i64 0]
structure RS (w:World)(m:Nat)(fs:Nat->Value)(lp:Int)(v:Array Value)(wr:World):Prop where
 mkr:Mk wr m fs lp
 res:Bk wr w.heap.size dC fO
 var:Bk wr (w.heap.size+1) dC v
 mv:Mv m w wr
section
variable {w:World} {m:Nat} {fs:Nat->Value} {lp:Int} {v:Array Value} {wr w2:World}
theorem RS.begin (h:Mk w m fs lp):RS w m fs lp fO ((w.alloc (.cells fO dC)).alloc (.cells fO dC)):=by have b1:Below w.heap.size w ((w.alloc (.cells fO dC)).alloc (.cells fO dC)):=((aqk _ _).alloc (ag _) _).alloc (by simp) _;refine⟨h.below b1,(Bk.new w _ _).alloc _,?_,jM (DC m w) b1⟩;have:=Bk.new (w.alloc (.cells fO dC)) dC fO;simpa using this
theorem RS.next (h:RS w m fs lp v wr){lp2:Int}(hm:Mk w2 m fs lp2)(hv:Mv m wr w2):RS w m fs lp2 v w2:=by have hs:=Sp.next h.mkr hv;exact⟨hm,hs.bk h.res (by decide),hs.bk h.var (by decide),gy h.mv hv⟩
theorem RS.below (h:RS w m fs lp v wr)(hb:Below wr.heap.size wr w2):RS w m fs lp v w2:=by have hs:Sp m aY wr w2:=Sp.below hb;exact⟨h.mkr.below hb,hs.bk h.res (by decide),hs.bk h.var (by decide),jM h.mv hb⟩
theorem RS.drew (h:RS w m fs lp v wr):RS w m fs lp v wr.drew:=h.below (aqk _ _).drew
theorem RS.put (h:RS w m fs lp v wr)(hmw:m<w.heap.size)(j:Nat)(u:Value):RS w m fs lp (v.setIfInBounds j u) (wr.setCell ⟨w.heap.size+1,j,none⟩ u):=by have hs:Sp m dC wr (wr.setCell ⟨w.heap.size+1,j,none⟩ u):=Sp.set h.var (by omega) j u;exact⟨hs.mk h.mkr (by decide),h.res.far (by simp) _,h.var.set j u,uB h.mv (by omega) _ _⟩
theorem RS.push (h:RS w m fs lp v wr)(hmw:m<w.heap.size){base n s:Nat}{e:TypeId}{u:Value}{xs:List Value}(ho:wr.ownsRow base e s u n xs)(hb:w.heap.size<=base)(h1:mY≠e)(h2:dC≠e)(hg:wr.grownBy w2 u.ownBlock):RS w m fs lp v w2:=by have hs:Sp m e wr w2:=Sp.push ho (by omega) hg;exact⟨hs.mk h.mkr h1,hs.bk h.res h2,hs.bk h.var h2,kE h.mv ho hb hg⟩
theorem RS.cell (h:RS w m fs lp v wr)(j:Nat):wr.cell? ⟨w.heap.size+1,j,none⟩=v[j]? :=h.var.cell j
end
abbrev jf:List TypeId:=[aY,tRow,vO]
def lD (w:World)(m:Nat)(fs:Nat->Value)(lp:Int)(G:Nat)(kind:Int)(e:Ending)(w':World):Prop:=
 ∃(r:aom) (A0 A1 A2 A3 A4:Option Addr) (c0 c1 c2 c3 c4:Nat),aob G kind r/\e= .returned (.agg #[.slice A0 r.back.length c0,.slice A1 r.in'.length c1,.slice A2 r.ahead.length c2,.slice A3 r.out.length c3,.slice A4 r.calls.length c4,.int .i64 r.x])/\I64 r.x/\
  Sl anN 1 w' (TS jf w.heap.size w') A0 r.back/\Sl anN 1 w' (TS jf w.heap.size w') A1 r.in'/\Sl anN 1 w' (TS jf w.heap.size w') A2 r.ahead/\Sl anO 1 w' (TS jf w.heap.size w') A3 r.out/\Sl aov 2 w' (TS jf w.heap.size w') A4 r.calls/\Mk w' m fs lp/\Mv m w w'
section
variable {w:World} {m:Nat} {fs:Nat->Value} {lp:Int} {v:Array Value} {wr w2:World}
theorem RS.in0 (h:RS w m fs lp fO wr)(hmw:m<w.heap.size){lo:Nat}{As:Option Addr}{s:List Int}{cs:Nat}(hs:Sl anO 1 wr (TR [aY] lo wr.heap.size wr) As s)(hlo:w.heap.size+2<=lo)(hz:w.heap.size+2<=wr.heap.size)
  (hw:(wr.setCell ⟨w.heap.size+1,1,none⟩ (.slice (some ⟨wr.heap.size,0,none⟩) 1 1)).alloc (.cells #[.slice As s.length cs] tRow)=w2):
  RS w m fs lp #[.slice none 0 0,.slice (some ⟨wr.heap.size,0,none⟩) 1 1,.slice none 0 0,.slice none 0 0,.slice none 0 0,.int .i64 0] w2/\Sl anO 1 w2 (TR [aY] lo wr.heap.size w2) As s/\w2.ownsRow (w.heap.size+2) tRow 1 (.slice (some ⟨wr.heap.size,0,none⟩) 1 1) 1 [.slice As s.length cs]/\w2.heap.size=wr.heap.size+1:=by
 subst hw;have h2:=h.put hmw 1 (.slice (some ⟨wr.heap.size,0,none⟩) 1 1);have hb:Below (wr.setCell ⟨w.heap.size+1,1,none⟩ (.slice (some ⟨wr.heap.size,0,none⟩) 1 1)).heap.size (wr.setCell ⟨w.heap.size+1,1,none⟩ (.slice (some ⟨wr.heap.size,0,none⟩) 1 1)) ((wr.setCell ⟨w.heap.size+1,1,none⟩ (.slice (some ⟨wr.heap.size,0,none⟩) 1 1)).alloc (.cells #[.slice As s.length cs] tRow)):=(aqk _ _).alloc (ag _) _;have ho:=yE (wr.setCell ⟨w.heap.size+1,1,none⟩ (.slice (some ⟨wr.heap.size,0,none⟩) 1 1)) (w.heap.size+2) tRow 1 1 #[.slice As s.length cs] (by simpa using hz) rfl (by omega);exact⟨h2.below hb,Frz.below anO.ok (Frz.put anO.ok hs (.inl (by omega)) 1 _) hb,by simpa using ho,by simp⟩
theorem RS.more (h:RS w m fs lp v wr)(hmw:m<w.heap.size){e t:TypeId}{size:Nat}(E:ElT e t size)(h1:mY≠e)(h2:dC≠e){j n c:Nat}{A:Option Addr}{xs:List Value}{base:Nat}(hb:w.heap.size<=base)(hbz:base<=wr.heap.size)(hv:v[j]? =some (.slice A n c))(ho:wr.ownsRow base e size (.slice A n c) n xs)(news:Array Value)(hnl:news.size=size)(hone:∀u∈news.toList,u.oneCell'=true)(hn:n<=1000):
  ∃A5 c5 w9,(Builtin.append_ #[t,t] t #[.slice A n c,.slice (some ⟨wr.heap.size,0,none⟩) 1 1]).run Tryz.prog (wr.alloc (.cells news e))= .ok (.slice A5 (n+1) c5) w9/\
   w9.cell? ⟨w.heap.size+1,j,none⟩=some (.slice A n c)/\w9.frozen? ⟨w.heap.size+1,j,none⟩=false/\wr.grownBy w9 (Value.slice A n c).ownBlock/\w9.ownsRow base e size (.slice A5 (n+1) c5) (n+1) (xs++news.toList)/\RS w m fs lp v w9:=by
 obtain⟨A5,c5,w9,hrun,aZ,aB,bD⟩:=iG E t wr base n c A xs news hnl ho hone (by omega) hbz;have h9:=h.push hmw ho hb h1 h2 aB;exact⟨A5,c5,w9,hrun,by rw[h9.cell,hv],h9.var.frozen j,aB,aZ,h9⟩
end
def Ia (W:World)(g:Nat)(a b c d e f:Value):World:=(((((W.setCell ⟨g,0,none⟩ a).setCell ⟨g,1,none⟩ b).setCell ⟨g,2,none⟩ c).setCell ⟨g,3,none⟩ d).setCell ⟨g,4,none⟩ e).setCell ⟨g,5,none⟩ f
theorem oM {a w:World}{g:Nat}(h:a.grownBy w (some g))(j:Nat)(u:Value):a.grownBy (w.setCell ⟨g,j,none⟩ u) (some g):=bn h (.inl rfl) u
theorem YF (W:World)(g:Nat)(a b c d e f:Value):W.grownBy (Ia W g a b c d e f) (some g):=by have h0:=World.grownBy.refl W (some g);have h1:=oM h0 0 a;have h2:=oM h1 1 b;have h3:=oM h2 2 c;have h4:=oM h3 3 d;have h5:=oM h4 4 e;exact oM h5 5 f
theorem afp {W:World}{g:Nat}{t:TypeId}(hb:Bk W g t fO)(a b c d e f:Value):Bk (Ia W g a b c d e f) g t #[a,b,c,d,e,f]:=by have h0:=hb.set 0 a;have h1:=h0.set 1 b;have h2:=h1.set 2 c;have h3:=h2.set 3 d;have h4:=h3.set 4 e;exact h4.set 5 f
theorem jJ {w:World}{m:Nat}{fs:Nat->Value}{lp:Int}{wr:World}{G:Nat}{kind:Int}{r:aom}{A0 A1 A2 A3 A4:Option Addr}{c0 c1 c2 c3 c4:Nat}
  (h:RS w m fs lp #[.slice A0 r.back.length c0,.slice A1 r.in'.length c1,.slice A2 r.ahead.length c2,.slice A3 r.out.length c3,.slice A4 r.calls.length c4,.int .i64 r.x] wr) (hmw:m<w.heap.size) (hok:aob G kind r) (hx:I64 r.x)
  (s0:Sl anN 1 wr (TS jf w.heap.size wr) A0 r.back) (s1:Sl anN 1 wr (TS jf w.heap.size wr) A1 r.in') (s2:Sl anN 1 wr (TS jf w.heap.size wr) A2 r.ahead) (s3:Sl anO 1 wr (TS jf w.heap.size wr) A3 r.out) (s4:Sl aov 2 wr (TS jf w.heap.size wr) A4 r.calls):
  Bk (Ia wr w.heap.size (.slice A0 r.back.length c0) (.slice A1 r.in'.length c1) (.slice A2 r.ahead.length c2) (.slice A3 r.out.length c3) (.slice A4 r.calls.length c4) (.int .i64 r.x)) w.heap.size dC #[.slice A0 r.back.length c0,.slice A1 r.in'.length c1,.slice A2 r.ahead.length c2,.slice A3 r.out.length c3,.slice A4 r.calls.length c4,.int .i64 r.x]/\
   lD w m fs lp G kind (.returned (.agg #[.slice A0 r.back.length c0,.slice A1 r.in'.length c1,.slice A2 r.ahead.length c2,.slice A3 r.out.length c3,.slice A4 r.calls.length c4,.int .i64 r.x])) (Ia wr w.heap.size (.slice A0 r.back.length c0) (.slice A1 r.in'.length c1) (.slice A2 r.ahead.length c2) (.slice A3 r.out.length c3) (.slice A4 r.calls.length c4) (.int .i64 r.x)):=by
 have hg:=YF wr w.heap.size (.slice A0 r.back.length c0) (.slice A1 r.in'.length c1) (.slice A2 r.ahead.length c2) (.slice A3 r.out.length c3) (.slice A4 r.calls.length c4) (.int .i64 r.x);have hbk:=afp h.res (.slice A0 r.back.length c0) (.slice A1 r.in'.length c1) (.slice A2 r.ahead.length c2) (.slice A3 r.out.length c3) (.slice A4 r.calls.length c4) (.int .i64 r.x);generalize Ia wr w.heap.size (.slice A0 r.back.length c0) (.slice A1 r.in'.length c1) (.slice A2 r.ahead.length c2) (.slice A3 r.out.length c3) (.slice A4 r.calls.length c4) (.int .i64 r.x)=W at*
 have sp:Sp m dC wr W:=⟨_,hg,fun x hx=>by injection hx with hx;subst hx;exact⟨by omega,_,h.res⟩⟩
 exact⟨hbk,r,A0,A1,A2,A3,A4,c0,c1,c2,c3,c4,hok,rfl,hx,sp.sl anN.ok (by decide) s0,sp.sl anN.ok (by decide) s1,sp.sl anN.ok (by decide) s2,sp.sl anO.ok (by decide) s3,sp.sl aov.ok (by decide) s4,sp.mk h.mkr (by decide),uJ h.mv hg (fun x hx=>by injection hx with hx;exact .inl (by omega))⟩
structure RB (w:World)(m:Nat)(fs:Nat->Value)(lp:Int)(top:Nat)(lo1 hi1:Nat)(As:Option Addr)(s:List Int)(vi:Value)(ni:Nat)(ics:List Value)(bG hib:Nat)(Ab:Option Addr)(cb:Nat)(back:List (List Int))(bH hia:Nat)(Aa:Option Addr)(ca:Nat)(ahead:List (List Int))(v3 v4:Value)(wr:World):Prop where
 rs:RS w m fs lp #[.slice Ab back.length cb,vi,.slice Aa ahead.length ca,v3,v4,.int .i64 0] wr
 set:Sl anO 1 wr (TR [aY] lo1 hi1 wr) As s
 inn:wr.ownsRow (w.heap.size+2) tRow 1 vi ni ics
 fb:Sl anN 1 wr (TR [aY,tRow] bG hib wr) Ab back
 fa:Sl anN 1 wr (TR [aY,tRow] bH hia wr) Aa ahead
 bnd:w.heap.size+2<=top/\w.heap.size+2<=lo1/\hi1<=top/\w.heap.size+2<=bG/\hib<=top/\w.heap.size+2<=bH/\hia<=top/\top<=wr.heap.size
section
variable {w:World} {m:Nat} {fs:Nat->Value} {lp:Int} {top lo1 hi1:Nat} {As:Option Addr} {s:List Int} {vi:Value} {ni:Nat} {ics:List Value} {bG hib:Nat} {Ab:Option Addr} {cb:Nat} {back:List (List Int)} {bH hia:Nat} {Aa:Option Addr} {ca:Nat} {ahead:List (List Int)} {v3 v4:Value} {wr w2:World}
theorem RB.next (h:RB w m fs lp top lo1 hi1 As s vi ni ics bG hib Ab cb back bH hia Aa ca ahead v3 v4 wr)(hmw:m<w.heap.size)(hm:Mk w2 m fs lp)(hv:Mv m wr w2):RB w m fs lp top lo1 hi1 As s vi ni ics bG hib Ab cb back bH hia Aa ca ahead v3 v4 w2:=by obtain⟨b0,b1,b2,b3,b4,b5,b6,b7⟩:=h.bnd;have hz:=hv.size;exact⟨h.rs.next hm hv,Frz.next anO.ok h.set (by omega) hv,(Sp.next h.rs.mkr hv).own h.inn (by decide),Frz.next anN.ok h.fb (by omega) hv,Frz.next anN.ok h.fa (by omega) hv,b0,b1,b2,b3,b4,b5,b6,by omega⟩
theorem RB.drew (h:RB w m fs lp top lo1 hi1 As s vi ni ics bG hib Ab cb back bH hia Aa ca ahead v3 v4 wr):RB w m fs lp top lo1 hi1 As s vi ni ics bG hib Ab cb back bH hia Aa ca ahead v3 v4 wr.drew:=⟨h.rs.drew,h.set,h.inn,h.fb,h.fa,h.bnd⟩
theorem RB.ao1 (h:RB w m fs lp top lo1 hi1 As s vi ni ics bG hib Ab cb back bH hia Aa ca ahead v3 v4 wr){ui:Nat}(h1:top<=ui)(h2:ui<=wr.heap.size):RB w m fs lp ui lo1 hi1 As s vi ni ics bG hib Ab cb back bH hia Aa ca ahead v3 v4 wr:=by obtain⟨b0,b1,b2,b3,b4,b5,b6,b7⟩:=h.bnd;exact⟨h.rs,h.set,h.inn,h.fb,h.fa,by omega,b1,by omega,b3,by omega,b5,by omega,h2⟩
theorem RB.push (h:RB w m fs lp top lo1 hi1 As s vi ni ics bG hib Ab cb back bH hia Aa ca ahead v3 v4 wr)(hmw:m<w.heap.size){base n sz:Nat}{e:TypeId}{u:Value}{xs:List Value}(ho:wr.ownsRow base e sz u n xs)(hb:top<=base)(h1:mY≠e)(h2:dC≠e)(h3:tRow≠e)(hg:wr.grownBy w2 u.ownBlock):RB w m fs lp top lo1 hi1 As s vi ni ics bG hib Ab cb back bH hia Aa ca ahead v3 v4 w2:=by
 obtain⟨b0,b1,b2,b3,b4,b5,b6,b7⟩:=h.bnd;have hz:=hg.size;have hz0:=h.rs.mv.size;have hb0:w.heap.size<=base:=by omega
 exact⟨h.rs.push hmw ho hb0 h1 h2 hg,Frz.push anO.ok h.set ho (by omega) hg,(Sp.push (m:=m) ho (by omega) hg).own h.inn h3,Frz.push anN.ok h.fb ho (by omega) hg,Frz.push anN.ok h.fa ho (by omega) hg,b0,b1,b2,b3,b4,b5,b6,by omega⟩
theorem RB.aoX (h:RB w m fs lp top lo1 hi1 As s vi ni ics bG hib Ab cb back bH hia Aa ca ahead v3 v4 wr)(hmw:m<w.heap.size)(u:Value):RB w m fs lp top lo1 hi1 As s vi ni ics bG hib Ab cb back bH hia Aa ca ahead u v4 (wr.setCell ⟨w.heap.size+1,3,none⟩ u):=by obtain⟨b0,b1,b2,b3,b4,b5,b6,b7⟩:=h.bnd;exact⟨h.rs.put hmw 3 u,Frz.put anO.ok h.set (.inl (by omega)) 3 u,(Sp.set (m:=m) h.rs.var (by omega) 3 u).own h.inn (by decide),Frz.put anN.ok h.fb (.inl (by omega)) 3 u,Frz.put anN.ok h.fa (.inl (by omega)) 3 u,b0,b1,b2,b3,b4,b5,b6,by simpa using b7⟩
theorem RB.apm (h:RB w m fs lp top lo1 hi1 As s vi ni ics bG hib Ab cb back bH hia Aa ca ahead v3 v4 wr)(hmw:m<w.heap.size)(u:Value):RB w m fs lp top lo1 hi1 As s vi ni ics bG hib Ab cb back bH hia Aa ca ahead v3 u (wr.setCell ⟨w.heap.size+1,4,none⟩ u):=by obtain⟨b0,b1,b2,b3,b4,b5,b6,b7⟩:=h.bnd;exact⟨h.rs.put hmw 4 u,Frz.put anO.ok h.set (.inl (by omega)) 4 u,(Sp.set (m:=m) h.rs.var (by omega) 4 u).own h.inn (by decide),Frz.put anN.ok h.fb (.inl (by omega)) 4 u,Frz.put anN.ok h.fa (.inl (by omega)) 4 u,b0,b1,b2,b3,b4,b5,b6,by simpa using b7⟩
theorem RB.more (h:RB w m fs lp top lo1 hi1 As s vi ni ics bG hib Ab cb back bH hia Aa ca ahead v3 v4 wr)(hmw:m<w.heap.size){e t:TypeId}{size:Nat}(E:ElT e t size)(h1:mY≠e)(h2:dC≠e)(h3:tRow≠e){j n c:Nat}{A:Option Addr}{xs:List Value}{base:Nat}(hb:top<=base)(hbz:base<=wr.heap.size)
  (hv:(#[Value.slice Ab back.length cb,vi,.slice Aa ahead.length ca,v3,v4,.int .i64 0]:Array Value)[j]? =some (.slice A n c)) (ho:wr.ownsRow base e size (.slice A n c) n xs) (news:Array Value) (hnl:news.size=size) (hone:∀u∈news.toList,u.oneCell'=true) (hn:n<=1000):
  ∃A5 c5 w9,(Builtin.append_ #[t,t] t #[.slice A n c,.slice (some ⟨wr.heap.size,0,none⟩) 1 1]).run Tryz.prog (wr.alloc (.cells news e))= .ok (.slice A5 (n+1) c5) w9/\
   w9.cell? ⟨w.heap.size+1,j,none⟩=some (.slice A n c)/\w9.frozen? ⟨w.heap.size+1,j,none⟩=false/\w9.ownsRow base e size (.slice A5 (n+1) c5) (n+1) (xs++news.toList)/\RB w m fs lp top lo1 hi1 As s vi ni ics bG hib Ab cb back bH hia Aa ca ahead v3 v4 w9:=by
 obtain⟨A5,c5,w9,hrun,aZ,aB,bD⟩:=iG E t wr base n c A xs news hnl ho hone (by omega) hbz;have h9:=h.push hmw ho hb h1 h2 h3 aB;exact⟨A5,c5,w9,hrun,by rw[h9.rs.cell,hv],h9.rs.var.frozen j,aZ,h9⟩
end
theorem abQ:(Tryz.prog.info? dC).map (·.size)=some 6:=by kernel_rfl
theorem dV {W:World}{g:Nat}{cs:Array Value}{tmps:Array Value}(hb:Bk W g dC cs)(hsz:cs.size=6)(h2:tmps.getD 6 undef= .pointer (some ⟨g,0,none⟩)):(results Tryz.f108 tmps).run Tryz.prog W= .ok (.agg cs) W:=by rw[qo (fn:=Tryz.f108) (p:=6) (ty:=dC) rfl,h2];have:=run_loadVar_row (P:=Tryz.prog) W g dC dC cs (0,0) _ hb Tryz.underlying76 rfl (by rw[abQ,hsz]);simp[asAddr,Result.andThen,this]
end
section
attribute [-go_sem] Builtin.append_
def dR:Nat->List P3->List (List P3)->List P3->Option (List (List P3))
 |n,cur,told,[]=>if n=3 then some (told++[cur]) else none
 |n,cur,told,w::r=>
  if w.2.2≠[47]/\w.2.2≠[62] then dR n (cur++[w]) told r
  else if(n<2/\w.2.2=[47])\/(n=2/\w.2.2=[62]) then dR (n+1) [] (told++[cur]) r else none
def kK (ws:List P3):Option (List (List P3)):=dR 0 [] [] ws
theorem Qb (n:Nat)(cur:List P3)(told:List (List P3))(ws:List P3):gq n (ah cur) (told.map ah) (ah ws)=(dR n cur told ws).map (List.map ah):=by
 induction ws generalizing n cur told with
 |nil=>
  show gq n (ah cur) (told.map ah) []=_;rw[gq,dR];split
  ·simp
  rfl
 |cons w r ih=>
  show gq n (ah cur) (told.map ah) (w.2.2::ah r)=_;rw[gq,dR];split
  ·have:=ih n (cur++[w]) told;rw[show ah (cur++[w])=ah cur++[w.2.2] by simp[ah]] at this;exact this
  split
  ·have:=ih (n+1) [] (told++[cur]);rw[aqY] at this;exact this
  rfl
theorem RG (ws:List P3):pR (ah ws)=(kK ws).map (List.map ah):=Qb 0 [] [] ws
theorem VU (n:Nat)(cur:List P3)(told:List (List P3))(ws:List P3)(rows:List (List P3))(hn:n=told.length)(h:dR n cur told ws=some rows):rows.length=4/\∀r∈rows,r∈told\/r.length<=cur.length+ws.length:=by
 induction ws generalizing n cur told with
 |nil=>
  rw[dR] at h;split at h
  ·cases h;refine⟨by simp;omega,fun r hr=> ?_⟩;rcases aqp.1 hr with g|g
   ·exact .inl g
   simp only[aql] at g;subst g;exact .inr (by simp)
  cases h
 |cons w r ih=>
  rw[dR] at h;split at h
  ·obtain⟨g1,g2⟩:=ih n (cur++[w]) told hn h;refine⟨g1,fun x hx=>(g2 x hx).imp id fun g=> ?_⟩;simp only[ay,az,ln] at g ⊢;omega
  split at h
  ·obtain⟨g1,g2⟩:=ih (n+1) [] (told++[cur]) (by simp[hn]) h;refine⟨g1,fun x hx=> ?_⟩;rcases g2 x hx with g|g
   ·rcases aqp.1 g with g|g
    ·exact .inl g
    simp only[aql] at g;subst g;exact .inr (by omega)
   exact .inr (by simp only[ay,ln] at g ⊢;omega)
  cases h
theorem SK {ws:List P3}{rows:List (List P3)}(h:kK ws=some rows):rows.length=4/\∀r∈rows,r.length<=ws.length:=by obtain⟨h1,h2⟩:=VU 0 [] [] ws rows rfl h;exact⟨h1,fun r hr=>(h2 r hr).elim (fun g=>by simp at g) (fun g=>by simpa using g)⟩
abbrev iU:TypeId:=208
abbrev vN:TypeId:=242
abbrev dX:TypeId:=124
def dH (hs:List Value)(v:Value):Array Value:=(hs++[v]++List.replicate (3 - hs.length) (Value.slice none 0 0)).toArray
def uo:Array Value:= #[.string ⟨#[47]⟩,.string ⟨#[47]⟩,.string ⟨#[62]⟩]
theorem TW (hs:List Value)(v:Value):(dH hs v)[hs.length]? =some v:=by simp[dH]
theorem ade (hs:List Value)(v u:Value):(dH hs v).setIfInBounds hs.length u=dH hs u:=by simp[dH]
theorem abu (hs:List Value)(v:Value)(h:hs.length<3):dH (hs++[v]) (.slice none 0 0)=dH hs v:=by
 unfold dH;congr 1
 have:3 - hs.length=(3 - (hs++[v]).length)+1:=by simp;omega
 rw[this,List.replicate_succ];simp
theorem abx (hs:List Value)(v:Value)(h:hs.length<=3):∃a b c d,dH hs v= #[a,b,c,d]:=by
 have hl:(dH hs v).toList.length=4:=by simp[dH];omega
 match hm:(dH hs v).toList,hl with
 |[a,b,c,d],_=>exact⟨a,b,c,d,by rw[<-Array.toList_inj,hm]⟩
def aoI (w:World)(ws:List P3)(k n:Nat)(wr:World):Prop:=
 ∃told hs cur A c Wo,hs.length=n/\told.length=n/\n<=3/\cur.length<=k/\dR n cur told (ws.drop k)=kK ws/\Below w.heap.size w Wo/\w.heap.size+1<Wo.heap.size/\RowsIn dX Wo hs told/\Wo.grownBy wr (some w.heap.size)/\
  wr.ownsRow Wo.heap.size dX 3 (.slice A cur.length c) cur.length (dD cur)/\Bk wr w.heap.size iU (dH hs (.slice A cur.length c))/\Bk wr (w.heap.size+1) vN uo/\(∃cs0,Bk Wo w.heap.size iU cs0)
theorem aoI.low {w wr:World}{ws:List P3}{k n:Nat}(h:aoI w ws k n wr):Below w.heap.size w wr:=by obtain⟨told,hs,cur,A,c,Wo,-,-,-,-,-,h6,h7,-,h9,-⟩:=h;exact h6.grown h9 h6.size (fun g e=>by cases e;exact ag _)
theorem RowsIn.keepW {w w':World}{hs:List Value}{rows:List (List P3)}(h:RowsIn dX w hs rows){P:Nat}{t:TypeId}{cs:Array Value}(hb:Bk w P t cs)(hg:w.grownBy w' (some P))(hne:dX≠t):RowsIn dX w' hs rows:=h.kept fun _ _ _ hr=>hr.grown hg (fun g e=>by cases e;exact⟨cs,t,hb,hne⟩)
theorem aoI.more {w wr w9:World}{ws:List P3}{k n:Nat}{told:List (List P3)}{hs:List Value}{cur:List P3}{A A':Option Addr}{c c':Nat}{Wo:World}{q:P3}(h1:hs.length=n)(h2:told.length=n)(h3:n<=3)(h4:cur.length<=k)(h5:dR n cur told (ws.drop k)=kK ws)(h6:Below w.heap.size w Wo)(h7:w.heap.size+1<Wo.heap.size)(h8:RowsIn dX Wo hs told)
  (h9:Wo.grownBy wr (some w.heap.size)) (h10:wr.ownsRow Wo.heap.size dX 3 (.slice A cur.length c) cur.length (dD cur)) (h11:Bk wr w.heap.size iU (dH hs (.slice A cur.length c))) (h12:Bk wr (w.heap.size+1) vN uo)
  (hq:ws[k]? =some q) (q1:q.2.2≠[47]) (q2:q.2.2≠[62]) (o:Obj) (ho:w9.ownsRow Wo.heap.size dX 3 (.slice A' (cur.length+1) c') (cur.length+1) (dD cur++c3 q)) (hg:(wr.alloc o).grownBy w9 (Value.slice A cur.length c).ownBlock) {cs0:Array Value} (h13:Bk Wo w.heap.size iU cs0):
  aoI w ws (k+1) n (w9.setCell ⟨w.heap.size,n,none⟩ (.slice A' (cur.length+1) c')):=by
 have hown:=h10.alloc o;have b9:Bk w9 w.heap.size iU (dH hs (.slice A cur.length c)):=Bk.grown (h11.alloc o) hg hown (by decide);have c9:Bk w9 (w.heap.size+1) vN uo:=Bk.grown (h12.alloc o) hg hown (by decide);have hlow:∀g,(Value.slice A cur.length c).ownBlock=some g->Wo.heap.size<=g:=fun g e=>(h10.lt g e).1
 refine⟨told,hs,cur++[q],A',c',Wo,h1,h2,h3,by simp;omega,?_,h6,h7,h8,?_,?_,?_,Bk.far c9 (by simp) _,⟨cs0,h13⟩⟩
 ·rw[<-h5,vP ws k q hq,dR,if_pos ⟨q1,q2⟩]
 ·have g1:Wo.grownBy w9 (some w.heap.size):=⟨hg.os.trans h9.os,hg.tape.trans h9.tape,hg.output.trans h9.output,nt h9.size (nt (by simp) hg.size),fun i hi hne=>by
   refine((hg.block i (by have:=h9.size;simp;omega) fun e=> ?_).trans (Below.heap_alloc _ _ _ (aqu hi h9.size))).trans (h9.block i hi hne);have:=hlow i e.symm;omega⟩
  exact cZ g1 (dF w9 ⟨w.heap.size,n,none⟩ _)
 ·rw[az,zF];have:dD [q]=c3 q:=by simp[dD]
  rw[this];exact qU ho b9 (by decide) n _
 have:=b9.set n (.slice A' (cur.length+1) c');rw[<-h1,ade] at this;rw[az,<-h1];exact this
theorem aoI.next {w wr w9:World}{ws:List P3}{k n:Nat}{told:List (List P3)}{hs:List Value}{cur:List P3}{A:Option Addr}{c:Nat}{Wo:World}{q:P3}(h1:hs.length=n)(h2:told.length=n)(h5:dR n cur told (ws.drop k)=kK ws)(h6:Below w.heap.size w Wo)(h7:w.heap.size+1<Wo.heap.size)(h8:RowsIn dX Wo hs told)
  (h9:Wo.grownBy wr (some w.heap.size)) (h10:wr.ownsRow Wo.heap.size dX 3 (.slice A cur.length c) cur.length (dD cur)) (h11:Bk wr w.heap.size iU (dH hs (.slice A cur.length c))) (h12:Bk wr (w.heap.size+1) vN uo) {cs0:Array Value} (h13:Bk Wo w.heap.size iU cs0)
  (hq:ws[k]? =some q) (q1:(n<2/\q.2.2=[47])\/(n=2/\q.2.2=[62])) (hb:Below wr.heap.size wr w9):aoI w ws (k+1) (n+1) w9:=by
 have r1:=((h8.keepW h13 h9 (by decide)).snoc (kH h10) (vZ h10)).below hb;have s1:=h6.size;have s2:=h9.size;have s3:=hb.size;refine⟨told++[cur],hs++[.slice A cur.length c],[],none,0,w9,by simp[h1],by simp[h2],by omega,by simp,?_,?_,by omega,r1,World.grownBy.refl _ _,World.ownsRow_nil _ _ _ _,?_,h12.keep (hb.block _ h12.lt),⟨_,h11.keep (hb.block _ h11.lt)⟩⟩
 ·rw[<-h5,vP ws k q hq,dR,if_neg ?_,if_pos q1];rintro⟨g1,g2⟩;rcases q1 with⟨_,h⟩|⟨_,h⟩
  ·exact g1 h
  exact g2 h
 ·exact((h6.grown h9 h6.size (fun g e=>by cases e;exact ag _))).trans (hb.mono (by omega))
 rw[ln,abu _ _ (by omega)];exact h11.keep (hb.block _ h11.lt)
def UH (w:World)(ws:List P3)(e:Ending)(w':World):Prop:=
 Below w.heap.size w w'/\∃A0 k0 c0 A1 k1 c1 A2 k2 c2 A3 k3 c3,match kK ws with
  |none=>e= .returned (.tuple #[.agg #[.slice A0 k0 c0,.slice A1 k1 c1,.slice A2 k2 c2,.slice A3 k3 c3],.bool false])
  |some rows=>e= .returned (.tuple #[.agg #[.slice A0 k0 c0,.slice A1 k1 c1,.slice A2 k2 c2,.slice A3 k3 c3],.bool true])/\RowsIn dX w' [.slice A0 k0 c0,.slice A1 k1 c1,.slice A2 k2 c2,.slice A3 k3 c3] rows
theorem ad4 {ws:List P3}{k n:Nat}{told:List (List P3)}{cur:List P3}(h5:dR n cur told (ws.drop k)=kK ws)(hk:ws.length<=k):kK ws=if n=3 then some (told++[cur]) else none:=by rw[<-h5,aqU hk,dR]
theorem aes {ws:List P3}{k n:Nat}{told:List (List P3)}{cur:List P3}{q:P3}(h5:dR n cur told (ws.drop k)=kK ws)(hq:ws[k]? =some q)(q0:q.2.2=[47]\/q.2.2=[62])(q1:¬((n<2/\q.2.2=[47])\/(n=2/\q.2.2=[62]))):kK ws=none:=by
 rw[<-h5,vP ws k q hq,dR,if_neg ?_,if_neg q1];rintro⟨g1,g2⟩;rcases q0 with h|h
 ·exact g1 h
 exact g2 h
end
section
abbrev YN (lo hi:Nat)(w w':World):Prop:=∀b,lo<=b->b<hi->w'.heap[b]? =w.heap[b]?
structure Fzn (lo hi:Nat)(P:World->Prop)(w:World):Prop where
 now:P w
 keep:∀w w',P w->YN lo hi w w'->P w'
 top:hi<=w.heap.size
section
variable {lo hi:Nat} {P Q:World->Prop} {w w':World} {m:Nat}
theorem Fzn.step (h:Fzn lo hi P w)(hz:w.heap.size<=w'.heap.size)(he:YN lo hi w w'):Fzn lo hi P w':=⟨h.keep _ _ h.now he,h.keep,nt h.top hz⟩
theorem Fzn.row {row:Option Nat}(h:Fzn lo hi P w)(hg:w.grownBy w' row)(hr:∀x,row=some x->x<lo\/hi<=x):Fzn lo hi P w':=h.step hg.size fun b h1 h2=>hg.block b (by have:=h.top;omega) (fun e=>by have:=hr b e.symm;omega)
theorem Fzn.next (h:Fzn lo hi P w)(hm:m<lo)(hv:Mv m w w'):Fzn lo hi P w':=h.row hv (fun x hx=>by injection hx with hx;exact .inl (by omega))
theorem Fzn.below (h:Fzn lo hi P w)(hb:Below w.heap.size w w'):Fzn lo hi P w':=h.row (aH hb none) (fun x hx=>by cases hx)
theorem Fzn.drew (h:Fzn lo hi P w):Fzn lo hi P w.drew:=h.below (aqk _ _).drew
theorem Fzn.put (h:Fzn lo hi P w){g:Nat}(hg:g<lo\/hi<=g)(j:Nat)(u:Value):Fzn lo hi P (w.setCell ⟨g,j,none⟩ u):=h.row (bn (World.grownBy.refl w (some g)) (.inl rfl) u) (fun x hx=>by injection hx with hx;rw[<-hx];exact hg)
theorem Fzn.push {base n s:Nat}{e:TypeId}{v:Value}{ys:List Value}(h:Fzn lo hi P w)(ho:w.ownsRow base e s v n ys)(hb:hi<=base)(hg:w.grownBy w' v.ownBlock):Fzn lo hi P w':=h.row hg (fun x hx=> .inr (nt hb (ho.lt x hx).1))
theorem Fzn.wide (h:Fzn lo hi P w){lo2 hi2:Nat}(h1:lo2<=lo)(h2:hi<=hi2)(h3:hi2<=w.heap.size):Fzn lo2 hi2 P w:=⟨h.now,fun a b ha he=>h.keep a b ha (fun x h4 h5=>he x (by omega) (by omega)),h3⟩
theorem Fzn.and (h:Fzn lo hi P w)(k:Fzn lo hi Q w):Fzn lo hi (fun w=>P w/\Q w) w:=⟨⟨h.now,k.now⟩,fun a b ha he=>⟨h.keep a b ha.1 he,k.keep a b ha.2 he⟩,h.top⟩
theorem Fzn.true (h:hi<=w.heap.size):Fzn lo hi (fun _=>True) w:=⟨trivial,fun _ _ _ _=>trivial,h⟩
theorem Fzn.map (h:Fzn lo hi P w)(hm:∀w,P w->Q w)(hk:∀w w',Q w->YN lo hi w w'->Q w'):Fzn lo hi Q w:=⟨hm w h.now,hk,h.top⟩
theorem TR.eqb {ts:List TypeId}(he:YN lo hi w w'):Same (TR ts lo hi w) w w'/\∀b,TR ts lo hi w b->TR ts lo hi w' b:=by
 have key:∀b,TR ts lo hi w b->w'.heap[b]? =w.heap[b]? :=fun b hb=>he b hb.1.1 hb.1.2
 exact⟨key,fun b hb=>by
  obtain⟨h1,cs,t,hk,ht⟩:=hb;exact⟨h1,cs,t,(key b ⟨h1,cs,t,hk,ht⟩).trans hk,ht⟩⟩
variable {α:Type} {R:Rel α} {size:Nat} {ts:List TypeId} {A:Option Addr} {xs:List α} {cs:List Value}
theorem Fzn.sl (ok:R.Ok)(h:Sl R size w (TR ts lo hi w) A xs)(ht:hi<=w.heap.size):Fzn lo hi (fun w=>Sl R size w (TR ts lo hi w) A xs) w:=⟨h,fun _ _ ha he=>ha.moved ok (TR.eqb he),ht⟩
theorem Fzn.fl (ok:R.Ok)(h:Fl R size w (TR ts lo hi w) cs xs)(ht:hi<=w.heap.size):Fzn lo hi (fun w=>Fl R size w (TR ts lo hi w) cs xs) w:=⟨h,fun _ _ ha he=>ha.moved ok (TR.eqb he),ht⟩
theorem TR.sub {ts':List TypeId}{lo' hi':Nat}(h:∀t∈ts,t∈ts')(h1:lo'<=lo)(h2:hi<=hi'):∀b,TR ts lo hi w b->TR ts' lo' hi' w b:=fun b ⟨⟨h3,h4⟩,cs,t,h5,h6⟩=>⟨⟨by omega,by omega⟩,cs,t,h5,h t h6⟩
theorem TR.lw:∀b,TR ts lo hi w b->b<w.heap.size:=fun b ⟨_,_,_,h,_⟩=>h.lt
theorem TR.ao6 {base:Nat}(h:lo<=base):∀b,TS ts base w b->TR ts lo w.heap.size w b:=fun b hb=>⟨⟨nt h hb.1,TS.lt b hb⟩,hb.2⟩
theorem zn {e:TypeId}{base n c:Nat}(h:w.ownsRow base e size (.slice A n c) n cs)(hf:Fl R size w (TR ts lo w.heap.size w) cs xs)(he:e∈ts)(hb:lo<=base)(hsz:0<size):Sl R size w (TR ts lo w.heap.size w) A xs:=
 Sl.aow h hf (fun g hg=>by
  obtain⟨cur,hk⟩:=jK h g hg;exact⟨⟨by have:=(h.lt g hg).1;omega,hk.lt⟩,cur,e,hk,he⟩) hsz
end
structure Mv2 (m:Nat)(row:Option Nat)(w w':World):Prop where
 os:w'.os=w.os
 tape:w'.tape=w.tape
 output:w'.output=w.output
 size:w.heap.size<=w'.heap.size
 block:∀i,i<w.heap.size->i≠m->row≠some i->w'.heap[i]? =w.heap[i]?
section
variable {m:Nat} {row:Option Nat} {w w' w2:World}
theorem Mv.two (h:Mv m w w'):Mv2 m row w w':=⟨h.os,h.tape,h.output,h.size,fun i h1 h2 _=>h.block i h1 (fun e=>by injection e with e;exact h2 e)⟩
theorem Mv2.step {r:Option Nat}(h:Mv2 m row w w')(hg:w'.grownBy w2 r)(hr:∀x,r=some x->w.heap.size<=x\/x=m\/row=some x):Mv2 m row w w2:=
 ⟨hg.os.trans h.os,hg.tape.trans h.tape,hg.output.trans h.output,nt h.size hg.size,fun i h1 h2 h3=>(hg.block i (aqu h1 h.size) (fun e=>by
  rcases hr i e.symm with h4|h4|h4
  ·omega
  ·exact h2 h4
  exact h3 h4)).trans (h.block i h1 h2 h3)⟩
theorem Mv2.fz {lo hi:Nat}{P:World->Prop}(h:Mv2 m row w w')(hm:m<lo)(hr:∀x,row=some x->hi<=x)(k:Fzn lo hi P w):Fzn lo hi P w':=k.step h.size fun b h1 h2=>h.block b (by have:=k.top;omega) (by omega) (fun e=>by have:=hr b e;omega)
end
end
section
section
variable {w:World} {m:Nat} {fs:Nat->Value} {lp:Int} {top lo1 hi1:Nat} {As:Option Addr} {s:List Int} {vi:Value} {ni:Nat} {ics:List Value} {bG hib:Nat} {Ab:Option Addr} {cb:Nat} {back:List (List Int)} {bH hia:Nat} {Aa:Option Addr} {ca:Nat} {ahead:List (List Int)} {v3 v4:Value} {wr w2:World} {jY kM:Nat} {cells:List Value} {q:List (List Int)}
structure RQ (w:World)(m:Nat)(fs:Nat->Value)(lp:Int)(top:Nat)(lo1 hi1:Nat)(As:Option Addr)(s:List Int)(vi:Value)(ni:Nat)(ics:List Value)(bG hib:Nat)(Ab:Option Addr)(cb:Nat)(back:List (List Int))(bH hia:Nat)(Aa:Option Addr)(ca:Nat)(ahead:List (List Int))(v3 v4:Value)(jY kM:Nat)(cells:List Value)(q:List (List Int))(wr:World):Prop where
 rb:RB w m fs lp top lo1 hi1 As s vi ni ics bG hib Ab cb back bH hia Aa ca ahead v3 v4 wr
 fq:Fl anN 1 wr (TR [aY,tRow] jY kM wr) cells q
 bq:w.heap.size+2<=jY/\kM<=top
theorem RQ.next (h:RQ w m fs lp top lo1 hi1 As s vi ni ics bG hib Ab cb back bH hia Aa ca ahead v3 v4 jY kM cells q wr)(hmw:m<w.heap.size)(hm:Mk w2 m fs lp)(hv:Mv m wr w2):RQ w m fs lp top lo1 hi1 As s vi ni ics bG hib Ab cb back bH hia Aa ca ahead v3 v4 jY kM cells q w2:=by obtain⟨q1,q2⟩:=h.bq;exact⟨h.rb.next hmw hm hv,h.fq.moved anN.ok (TR.step hv (fun x hx=>by injection hx with hx;exact .inl (by omega))),h.bq⟩
theorem RQ.drew (h:RQ w m fs lp top lo1 hi1 As s vi ni ics bG hib Ab cb back bH hia Aa ca ahead v3 v4 jY kM cells q wr):RQ w m fs lp top lo1 hi1 As s vi ni ics bG hib Ab cb back bH hia Aa ca ahead v3 v4 jY kM cells q wr.drew:=⟨h.rb.drew,h.fq,h.bq⟩
theorem RQ.ao1 (h:RQ w m fs lp top lo1 hi1 As s vi ni ics bG hib Ab cb back bH hia Aa ca ahead v3 v4 jY kM cells q wr){ui:Nat}(h1:top<=ui)(h2:ui<=wr.heap.size):RQ w m fs lp ui lo1 hi1 As s vi ni ics bG hib Ab cb back bH hia Aa ca ahead v3 v4 jY kM cells q wr:=⟨h.rb.ao1 h1 h2,h.fq,h.bq.1,nt h.bq.2 h1⟩
theorem RQ.aoX (h:RQ w m fs lp top lo1 hi1 As s vi ni ics bG hib Ab cb back bH hia Aa ca ahead v3 v4 jY kM cells q wr)(hmw:m<w.heap.size)(u:Value):RQ w m fs lp top lo1 hi1 As s vi ni ics bG hib Ab cb back bH hia Aa ca ahead u v4 jY kM cells q (wr.setCell ⟨w.heap.size+1,3,none⟩ u):=by obtain⟨q1,q2⟩:=h.bq;exact⟨h.rb.aoX hmw u,h.fq.moved anN.ok (TR.step (bn (World.grownBy.refl wr (some (w.heap.size+1))) (.inl rfl) u) (fun x hx=>by injection hx with hx;exact .inl (by omega))),h.bq⟩
theorem RQ.apm (h:RQ w m fs lp top lo1 hi1 As s vi ni ics bG hib Ab cb back bH hia Aa ca ahead v3 v4 jY kM cells q wr)(hmw:m<w.heap.size)(u:Value):RQ w m fs lp top lo1 hi1 As s vi ni ics bG hib Ab cb back bH hia Aa ca ahead v3 u jY kM cells q (wr.setCell ⟨w.heap.size+1,4,none⟩ u):=by obtain⟨q1,q2⟩:=h.bq;exact⟨h.rb.apm hmw u,h.fq.moved anN.ok (TR.step (bn (World.grownBy.refl wr (some (w.heap.size+1))) (.inl rfl) u) (fun x hx=>by injection hx with hx;exact .inl (by omega))),h.bq⟩
theorem RQ.below (h:RQ w m fs lp top lo1 hi1 As s vi ni ics bG hib Ab cb back bH hia Aa ca ahead v3 v4 jY kM cells q wr)(hb:Below wr.heap.size wr w2):RQ w m fs lp top lo1 hi1 As s vi ni ics bG hib Ab cb back bH hia Aa ca ahead v3 v4 jY kM cells q w2:=by obtain⟨b0,b1,b2,b3,b4,b5,b6,b7⟩:=h.rb.bnd;have hz:=hb.size;have sp:Sp m aY wr w2:=Sp.below hb;exact⟨⟨h.rb.rs.below hb,Frz.below anO.ok h.rb.set hb,sp.own h.rb.inn (by decide),Frz.below anN.ok h.rb.fb hb,Frz.below anN.ok h.rb.fa hb,b0,b1,b2,b3,b4,b5,b6,by omega⟩,h.fq.moved anN.ok (TR.step (aH hb none) (fun x hx=>by cases hx)),h.bq⟩
theorem RQ.more (h:RQ w m fs lp top lo1 hi1 As s vi ni ics bG hib Ab cb back bH hia Aa ca ahead v3 v4 jY kM cells q wr)(hmw:m<w.heap.size){e t:TypeId}{size:Nat}(E:ElT e t size)(h1:mY≠e)(h2:dC≠e)(h3:tRow≠e){j n c:Nat}{A:Option Addr}{xs:List Value}{base:Nat}(hb:top<=base)(hbz:base<=wr.heap.size)
  (hv:(#[Value.slice Ab back.length cb,vi,.slice Aa ahead.length ca,v3,v4,.int .i64 0]:Array Value)[j]? =some (.slice A n c)) (ho:wr.ownsRow base e size (.slice A n c) n xs) (news:Array Value) (hnl:news.size=size) (hone:∀u∈news.toList,u.oneCell'=true) (hn:n<=1000):
  ∃A5 c5 w9,(Builtin.append_ #[t,t] t #[.slice A n c,.slice (some ⟨wr.heap.size,0,none⟩) 1 1]).run Tryz.prog (wr.alloc (.cells news e))= .ok (.slice A5 (n+1) c5) w9/\
   w9.cell? ⟨w.heap.size+1,j,none⟩=some (.slice A n c)/\w9.frozen? ⟨w.heap.size+1,j,none⟩=false/\w9.ownsRow base e size (.slice A5 (n+1) c5) (n+1) (xs++news.toList)/\RQ w m fs lp top lo1 hi1 As s vi ni ics bG hib Ab cb back bH hia Aa ca ahead v3 v4 jY kM cells q w9:=by
 obtain⟨q1,q2⟩:=h.bq;obtain⟨A5,c5,w9,hrun,aZ,aB,bD⟩:=iG E t wr base n c A xs news hnl ho hone (by omega) hbz;have h9:=h.rb.push hmw ho hb h1 h2 h3 aB;exact⟨A5,c5,w9,hrun,by rw[h9.rs.cell,hv],h9.rs.var.frozen j,aZ,h9,h.fq.moved anN.ok (TR.step aB (fun x hx=> .inr (by have:=(ho.lt x hx).1;omega))),h.bq⟩
theorem row_one {w:World}{S:Bs}{cells:List Value}{q:List (List Int)}(h:Fl anN 1 w S cells q):∀u∈cells,u.oneCell'=true:=by
 intro u hu;obtain⟨i,hi⟩:=aqG.1 hu;have hl:i<q.length:=by have:=(aqm.1 hi).1;rw[h.1] at this;omega
 obtain⟨cs,⟨A,c,rfl,-⟩,-,h3⟩:=h.2 i _ (aqn hl);have:=h3 0 _ rfl;simp only[Nat.mul_one,Nat.add_zero] at this;rw[hi] at this;injection this with this
 subst this;rfl
theorem RB.app {b1 c1:Nat}(h:RB w m fs lp top lo1 hi1 As s (.slice (some ⟨b1,0,none⟩) 1 c1) 1 ics bG hib Ab cb back bH hia Aa ca ahead v3 v4 wr)(hmw:m<w.heap.size)(hb:hi1<=b1/\(b1<bG\/hib<=b1)/\(b1<bH\/hia<=b1)){Aq:Option Addr}{cq:Nat}
  (fq:Sl anN 1 wr (TR [aY,tRow] jY kM wr) Aq q) (hq:b1<jY) (hqz:kM<=wr.heap.size) (hq2:w.heap.size+2<=jY) (hl:q.length<=100):
  ∃A5 c5 w9 cells,(Builtin.append_ #[73,73] 73 #[.slice (some ⟨b1,0,none⟩) 1 c1,.slice Aq q.length cq]).run Tryz.prog wr= .ok (.slice A5 (1+q.length) c5) w9/\
   w9.cell? ⟨w.heap.size+1,1,none⟩=some (.slice (some ⟨b1,0,none⟩) 1 c1)/\w9.frozen? ⟨w.heap.size+1,1,none⟩=false/\
   RQ w m fs lp w9.heap.size lo1 hi1 As s (.slice A5 (1+q.length) c5) (1+q.length) (ics++cells) bG hib Ab cb back bH hia Aa ca ahead v3 v4 jY kM cells q (w9.setCell ⟨w.heap.size+1,1,none⟩ (.slice A5 (1+q.length) c5)):=by
 obtain⟨b0,b1',b2,b3,b4,b5,b6,b7⟩:=h.bnd;obtain⟨cells,hfl,hrd⟩:=fq.rdM (fun b hb=>by obtain⟨_,_,_,hk,_⟩:=hb;exact hk.lt);obtain⟨A5,c5,w9,hrun,aZ,aB,bD⟩:=wH GX 73 wr (w.heap.size+2) 1 c1 (some ⟨b1,0,none⟩) ics h.inn wr.heap.size Aq q.length cq cells hrd (row_one hfl) (by omega) (by omega);have Zb:=aB.size;have hrow:∀x,(Value.slice (some ⟨b1,0,none⟩) 1 c1).ownBlock=some x->x=b1:=fun x hx=>by simp[Value.ownBlock] at hx;exact hx.symm
 have r9:=h.rs.push hmw h.inn (by omega) (by decide) (by decide) aB;have k1:Sl anO 1 w9 (TR [aY] lo1 hi1 w9) As s:=Frz.row anO.ok h.set aB (fun x hx=>by have:=hrow x hx;omega);have k2:Sl anN 1 w9 (TR [aY,tRow] bG hib w9) Ab back:=Frz.row anN.ok h.fb aB (fun x hx=>by have:=hrow x hx;omega);have k3:Sl anN 1 w9 (TR [aY,tRow] bH hia w9) Aa ahead:=Frz.row anN.ok h.fa aB (fun x hx=>by have:=hrow x hx;omega);have k4:Fl anN 1 w9 (TR [aY,tRow] jY kM w9) cells q:=hfl.moved anN.ok (TR.step aB (fun x hx=>by have:=hrow x hx;omega));have sp:=Sp.set (m:=m) r9.var (by omega) 1 (.slice A5 (1+q.length) c5);refine⟨A5,c5,w9,cells,hrun,r9.cell 1,r9.var.frozen 1,⟨r9.put hmw 1 _,Frz.put anO.ok k1 (.inl (by omega)) 1 _,sp.own aZ (by decide),Frz.put anN.ok k2 (.inl (by omega)) 1 _,Frz.put anN.ok k3 (.inl (by omega)) 1 _,?_⟩,?_,hq2,by omega⟩
 ·simp only[World.size_setCell];omega
 exact k4.moved anN.ok (TR.step (bn (World.grownBy.refl w9 (some (w.heap.size+1))) (.inl rfl) _) (fun x hx=>by injection hx with hx;exact .inl (by omega)))
end
end
end Go.Proofs.YtkijckccfookeaaGreatDoor
