/- Lemmas. -/
import Derived.Test.YtkijckccfookeaaDoorX15
import Derived.Test.YtkijckccfookeaaDoorX09
set_option linter.unusedVariables false
set_option linter.unusedSimpArgs false
set_option maxRecDepth 100000
set_option maxHeartbeats 32000000
namespace Go.Proofs.YtkijckccfookeaaDoor
section
open Go.RowKit
theorem Jd (w:World)(g:aeS)(B3 B4 B5 B6 B7 B8:Option Addr)(d3 d4 d5 d6 d7 d8:Nat)(h:Sl ae6 4 w (Lw w) B6 g.anchors)(hl:Big g.anchors.length):Calls Tryd.prog 96 #[.agg #[.string ⟨g.name.toArray⟩,.int .i64 g.advance,.bool g.mark,.slice B3 g.points.length d3,.slice B4 g.ends.length d4,.slice B5 g.parts.length d5,.slice B6 g.anchors.length d6,.slice B7 g.deltas.length d7,.slice B8 g.hint.length d8]] w (OkE w (g.anchors.length<=16/\∀a∈g.anchors,1<=a.kind/\a.kind<=4/\N9 a.cls/\N9 a.x/\N9 a.y)):=by
 obtain⟨P,HP⟩:∃P:Prop,Hid (P=(g.anchors.length<=16/\∀a∈g.anchors,1<=a.kind/\a.kind<=4/\N9 a.cls/\N9 a.x/\N9 a.y)):=⟨_,rfl⟩
 rw[<-HP.out];unfold Big at*
 have H:=hd0 h;clear h;obtain⟨Wg,kZ,hbg,hkg⟩:=aB w 57 #[.string ⟨g.name.toArray⟩,.int .i64 g.advance,.bool g.mark,.slice B3 g.points.length d3,.slice B4 g.ends.length d4,.slice B5 g.parts.length d5,.slice B6 g.anchors.length d6,.slice B7 g.deltas.length d7,.slice B8 g.hint.length d8];have bV:Hid (Below w.heap.size w Wg):=hd0 hbg;have aj:=hd0 hkg;go_enter Tryd.func96,Tryd.ntmps96
 have hzg:=bV.out.size;clear hbg hkg;have n6:Wg.cell? ⟨w.heap.size,6,none⟩=some (.slice B6 g.anchors.length d6):=aj.out.cell 6;by_cases hm:16<g.anchors.length
 ·have bm:decide ((16:Int)<g.anchors.length)=true:=decide_eq_true (by omega);go_wp2_with fail
  go_ret
  exact OkE.bad _ (by decide) bV.out
 have bm:decide ((16:Int)<g.anchors.length)=false:=decide_eq_false (by omega);go_wp2_with fail
 try rw[kZ]
 clear n6 kZ;go_loopw [3] (fun i wr=>∃k:Nat,k<=g.anchors.length/\i= .int .i64 k/\Hid (Up g.anchors k (fun a=>1<=a.kind/\a.kind<=4/\N9 a.cls/\N9 a.x/\N9 a.y))/\Below Wg.heap.size Wg wr) (fun i _=>g.anchors.length - (intOf i).toNat)
 case atStart=>exact⟨0,by omega,rfl,hd0 (Up.zero _ _),agE _ _⟩
 case round=>
  obtain⟨w1,rfl⟩:∃x,x=wr:=⟨_,rfl⟩
  obtain⟨k,hk,rfl,hup,hbr⟩:=hrel;have x6:=aj.out.at hbr 6 rfl;have jm:Hid (Below w.heap.size w w1):=hd0 (bV.out.trans (hbr.mono hzg));by_cases hlt:k<g.anchors.length
  ·obtain⟨b,o,x,rfl,hb,hx,q0,q1,q2,q3,-,-,-,-⟩:=(H.out.lw ae6.ok jm.out).anchor hlt;obtain⟨W1,hW1,hb1,hk1⟩:=aB w1 68 #[.int .i64 x.kind,.int .i64 x.cls,.int .i64 x.x,.int .i64 x.y];have HB1:Hid (Below Wg.heap.size Wg W1):=hd0 (hbr.trans (hb1.mono hbr.size));have iw:Hid (Below w.heap.size w W1):=hd0 (bV.out.trans (HB1.out.mono hzg));have acm:=hd0 (Bk.bel aj.out HB1.out);have HKa:=hd0 hk1;have y6:=aj.out.at HB1.out 6 rfl;have y2:=aj.out.at HB1.out 2 rfl;have p0:=hk1.cell 0;have p1:=hk1.cell 1;have p2:=hk1.cell 2;have p3:=hk1.cell 3;clear hb hb1 hk1 hbr;by_cases h1:x.kind<1
   ·have bh1:decide (x.kind<1)=true:=decide_eq_true h1;go_wp2_with (first|(go_at_call 82;refine(bZ _ _).mono ?_;rintro e w' ⟨rfl,rfl⟩))
    go_ret
    exact OkE.bad _ (by decide) iw.out
   have bh1:decide (x.kind<1)=false:=decide_eq_false h1;by_cases h2:4<x.kind
   ·have kF:decide (4<x.kind)=true:=decide_eq_true h2;go_wp2_with (first|(go_at_call 82;refine(bZ _ _).mono ?_;rintro e w' ⟨rfl,rfl⟩))
    go_ret
    exact OkE.bad _ (by decide) iw.out
   have kF:decide (4<x.kind)=false:=decide_eq_false h2;by_cases h3:x.cls<0
   ·have jJ:decide (x.cls<0)=true:=decide_eq_true h3;go_wp2_with (first|(go_at_call 82;refine(bZ _ _).mono ?_;rintro e w' ⟨rfl,rfl⟩))
    go_ret
    exact OkE.bad _ (by decide) iw.out
   have jJ:decide (x.cls<0)=false:=decide_eq_false h3;by_cases h4:15<x.cls
   ·have qX:decide (15<x.cls)=true:=decide_eq_true h4;go_wp2_with (first|(go_at_call 82;refine(bZ _ _).mono ?_;rintro e w' ⟨rfl,rfl⟩))
    go_ret
    exact OkE.bad _ (by decide) iw.out
   have qX:decide (15<x.cls)=false:=decide_eq_false h4;by_cases h5:2<x.kind/\¬x.cls=0
   ·have sS:decide (2<x.kind)=true:=decide_eq_true h5.1;have O9:(x.cls !=0)=true:=by simpa using h5.2
    go_wp2_with (first|(go_at_call 82;refine(bZ _ _).mono ?_;rintro e w' ⟨rfl,rfl⟩))
    go_ret
    exact OkE.bad _ (by decide) iw.out
   have hw5:(decide (2<x.kind)=true/\(x.cls !=0)=false)\/decide (2<x.kind)=false:=by
    by_cases a1:2<x.kind
    ·exact .inl ⟨decide_eq_true a1,by have:x.cls=0:=Decidable.not_not.1 fun a2=>h5 ⟨a1,a2⟩;simp[this]⟩
    exact .inr (decide_eq_false a1)
   by_cases h7:dX x.x=false
   ·rcases hw5 with⟨sS,O9⟩|sS
    all_goals
     go_wp2_with (first|(go_at_call 82;refine(bZ _ _).mono ?_;rintro e w' ⟨rfl,rfl⟩))
     go_ret
     exact OkE.bad _ (by decide) iw.out
   have Uf:dX x.x=true:=by simpa using h7
   by_cases h8:dX x.y=false
   ·rcases hw5 with⟨sS,O9⟩|sS
    all_goals
     go_wp2_with (first|(go_at_call 82;refine(bZ _ _).mono ?_;rintro e w' ⟨rfl,rfl⟩))
     go_ret
     exact OkE.bad _ (by decide) iw.out
   have VT:dX x.y=true:=by simpa using h8
   by_cases h9:x.kind=2/\g.mark=false
   ·obtain⟨a1,a2⟩:=h9;have XK:(x.kind==2)=true:=by simp[a1]
    rw[a2] at y2;have sS:decide (2<x.kind)=false:=decide_eq_false (by omega);clear a1 a2;go_wp2_with (first|(go_at_call 82;refine(bZ _ _).mono ?_;rintro e w' ⟨rfl,rfl⟩))
    go_ret
    exact OkE.bad _ (by decide) iw.out
   have bY:=hd0 (hup.out.snoc hx.out ⟨by omega,by omega,by unfold N9;omega,kz Uf,kz VT⟩);have hw9:((x.kind==2)=true/\g.mark=true/\decide (2<x.kind)=false)\/((x.kind==2)=false/\decide (2<x.kind)=true/\(x.cls !=0)=false)\/((x.kind==2)=false/\decide (2<x.kind)=false):=by
    by_cases a1:x.kind=2
    ·refine .inl ⟨by simp[a1],?_,decide_eq_false (by omega)⟩;cases hm2:g.mark
     ·exact absurd ⟨a1,hm2⟩ h9
     rfl
    rcases hw5 with⟨b5,b6⟩|b5
    ·exact .inr (.inl ⟨by simpa using a1,b5,b6⟩)
    exact .inr (.inr ⟨by simpa using a1,b5⟩)
   clear hx hup hw5;have hkg:k<10000000000000:=by omega
   rcases hw9 with⟨XK,bh0,sS⟩|⟨XK,sS,O9⟩|⟨XK,sS⟩
   all_goals
    try(rw[bh0] at y2;clear bh0)
    go_wp2_with (first|(go_at_call 82;refine(bZ _ _).mono ?_;rintro e w' ⟨rfl,rfl⟩))
    go_loopw [7] (fun i2 w2=>∃j:Nat,j<=k/\i2= .int .i64 j/\Below W1.heap.size W1 w2) (fun i2 _=>k - (intOf i2).toNat)
    case atStart=>exact⟨0,by omega,rfl,agE _ _⟩
    case round=>
     obtain⟨w2,rfl⟩:∃x,x=wr:=⟨_,rfl⟩
     obtain⟨j,hj,rfl,hb2⟩:=hrel;have HB2:=hd0 hb2;have z6:=acm.out.at hb2 6 rfl;have u0:=HKa.out.at hb2 0 rfl;have u1:=HKa.out.at hb2 1 rfl;have VV:Hid (Below w.heap.size w w2):=hd0 (iw.out.trans (hb2.mono iw.out.size));have aa9:Hid (Below Wg.heap.size Wg w2):=hd0 (HB1.out.trans (hb2.mono HB1.out.size));clear hb2;by_cases hjt:j<k
     ·obtain⟨b2,o2,x2,e2,hb2,hx2,v0,v1,v2,v3,-,-,-,-⟩:=(H.out.lw ae6.ok VV.out).anchor (k:=j) (by omega);obtain⟨rfl,rfl⟩:b=b2/\o=o2:=by simpa using e2
      clear hb2 v2 v3 e2 hx2;by_cases m1:¬x2.kind=x.kind
      ·have uy:(x2.kind==x.kind)=false:=by simpa using m1
       go_wp2_with fail
       go_quiet (fail)
       go_wp2_with fail
       go_roundw
       case rel=>exact⟨j+1,by omega,by simp,below_drewN HB2.out _⟩
       case measure=>simp[intOf];omega
      have uy:(x2.kind==x.kind)=true:=by simpa using m1
      by_cases m2:x2.cls=x.cls
      ·have AY:(x2.cls==x.cls)=true:=by simpa using m2
       go_wp2_with fail
       go_quiet (fail)
       go_wp2_with fail
       go_ret
       exact OkE.bad _ (by decide) (below_drewN VV.out _)
      have AY:(x2.cls==x.cls)=false:=by simpa using m2
      go_wp2_with fail
      go_quiet (fail)
      go_wp2_with fail
      go_roundw
      case rel=>exact⟨j+1,by omega,by simp,below_drewN HB2.out _⟩
      case measure=>simp[intOf];omega
     obtain rfl:j=k:=by omega
     go_wp2_with fail
     go_roundw
     case rel=>exact⟨j+1,by omega,by simp,bY,aa9.out⟩
     case measure=>simp[intOf];omega
  obtain rfl:k=g.anchors.length:=by omega
  have hg:P:=HP.out.mpr ⟨by omega,fun x hx=>hup.out.all x hx⟩;clear hbr;go_wp2_with fail
  go_ret
  exact OkE.good hg jm.out
end
section
open Go.RowKit Go.Sort
theorem RY (ws:List B):ws.length<=(dN ws).length:=by
 induction ws with
 |nil=>simp
 |cons a l ih=>
  have e:dN (a::l)=32::a++dN l:=by simp[dN]
  rw[e];simp;omega
theorem jw (f:B)(ws:List B):ws.length+1<=(ax f ws).length:=by have:=RY ws;simp only[ax,la,aV,ln];omega
theorem Sm (gs:List aeS)(l:List Int):1<=(setW gs l).length:=by
 by_cases h:l.length=1
 ·match l,h with
  |[n],_=>simp[setW]
 rw[EF gs l h];simp
theorem Ak (gs:List aeS)(l:List (List Int)):l.length<=(bi gs l).length:=by
 induction l with
 |nil=>simp
 |cons a l ih=>
  have h1:=Sm gs a;have e:bi gs (a::l)=setW gs a++bi gs l:=by simp[bi]
  rw[e,la,aV];omega
theorem Ko (w:World)(Bd g:Nat)(fc:Nat->Value)(txt:B)(gs:List aeS)(kind:Int)(A0 B1 B2 B3 B4:Option Addr)(c0 d1 d2 d3 d4:Nat)(r:ae4)
  (hT:Tabs w) (hP:PN w g gs) (hgl:gs.length<=1000000000000) (hp:Pr w Bd g fc txt) (hBd:Bd<=w.heap.size)
  (h0:Sl aeR 1 w (FT w) A0 r.back) (h1:Sl aeR 1 w (FT w) B1 r.in') (h2:Sl aeR 1 w (FT w) B2 r.ahead) (h3:Sl aeQ 1 w (FT w) B3 r.out) (h4:Sl aff 2 w (FT w) B4 r.calls) (hx:I64 r.x)
  (hlen:txt.length+(kU gs kind r).length<=10000000000):
  Calls Tryd.prog 49 #[.pointer (some ⟨g,0,none⟩),.int .i64 kind,.agg #[.slice A0 r.back.length c0,.slice B1 r.in'.length d1,.slice B2 r.ahead.length d2,.slice B3 r.out.length d3,.slice B4 r.calls.length d4,.int .i64 r.x]] w
   fun e w'=>e= .returned (.tuple #[])/\Pr w' Bd g fc (txt++kU gs kind r)/\KP w w'/\Below Bd w w':=by
 have hw:=jw dC (vM gs kind r);have hrl:txt.length+(ax dC (vM gs kind r)).length<=10000000000:=hlen;have e:∀so,outW gs kind r=so->vM gs kind r=bi gs r.back++[[47]]++bi gs r.in'++[[47]]++bi gs r.ahead++[[62]]++so:=by intro so h;simp[vM,h]
 have vS:∀so,outW gs kind r=so->(bi gs r.back).length+(bi gs r.in').length+(bi gs r.ahead).length+so.length+3<=10000000000:=by intro so h;have:=congrArg List.length (e so h);simp only[la,aV,ln] at this;omega
 have hHL:∀so,outW gs kind r=so->txt.length+(ax dC (bi gs r.back++[[47]]++bi gs r.in'++[[47]]++bi gs r.ahead++[[62]]++so)).length<=1000000000000/\(bi gs r.back++[[47]]++bi gs r.in'++[[47]]++bi gs r.ahead++[[62]]++so).length<=1000000000000:=by intro so h;rw[<-e so h];exact⟨by omega,by omega⟩
 have g0:=Ak gs r.back;have g1:=Ak gs r.in';have g2:=Ak gs r.ahead;have hl0:=vS _ rfl;have S0:Hid (∀w',Below w.heap.size w w'->Calls Tryd.prog 71 #[.pointer (some ⟨g,0,none⟩),.slice A0 r.back.length c0] w' (dW w' (bi gs r.back))):=fun w' hb=>zV w' g gs A0 c0 r.back (hT.all hb) (hP.below hb) hgl ((KP.below hb).sl aeR.ok h0) (by omega) (by omega)
 have S1:Hid (∀w',Below w.heap.size w w'->Calls Tryd.prog 71 #[.pointer (some ⟨g,0,none⟩),.slice B1 r.in'.length d1] w' (dW w' (bi gs r.in'))):=fun w' hb=>zV w' g gs B1 d1 r.in' (hT.all hb) (hP.below hb) hgl ((KP.below hb).sl aeR.ok h1) (by omega) (by omega)
 have S2:Hid (∀w',Below w.heap.size w w'->Calls Tryd.prog 71 #[.pointer (some ⟨g,0,none⟩),.slice B2 r.ahead.length d2] w' (dW w' (bi gs r.ahead))):=fun w' hb=>zV w' g gs B2 d2 r.ahead (hT.all hb) (hP.below hb) hgl ((KP.below hb).sl aeR.ok h2) (by omega) (by omega)
 have S3:r.out.length<=10000000000->Hid (∀w',Below w.heap.size w w'->Calls Tryd.prog 72 #[.pointer (some ⟨g,0,none⟩),.slice B3 r.out.length d3] w' (dW w' (r.out.map (bM gs)))):=fun ho w' hb=>G8 w' g gs B3 d3 r.out (hT.all hb) (hP.below hb) hgl ((KP.below hb).sl aeQ.ok h3) (by omega)
 show Calls _ _ _ _ fun e w'=>e= .returned (.tuple #[])/\Pr w' Bd g fc (txt++ax dC (vM gs kind r))/\KP w w'/\Below Bd w w'
 by_cases k1:kind=1
 ·subst k1;have hs:outW gs 1 r=r.out.map (bM gs):=by simp[outW]
  exact Yd w Bd g fc txt A0 B1 B2 B3 B4 c0 d1 d2 d3 d4 r.back r.in' r.ahead r.out r.calls r.x _ _ _ _ hp hBd S0 S1 S2 (vS _ hs) (S3 (by have:=vS _ hs;rw[agL] at this;omega)) _ (e _ hs) (hHL _ hs)
 by_cases k2:kind=2
 ·subst k2;have hs:outW gs 2 r=r.out.map (bM gs):=by simp[outW]
  exact Xn w Bd g fc txt A0 B1 B2 B3 B4 c0 d1 d2 d3 d4 r.back r.in' r.ahead r.out r.calls r.x _ _ _ _ hp hBd S0 S1 S2 (vS _ hs) (S3 (by have:=vS _ hs;rw[agL] at this;omega)) _ (e _ hs) (hHL _ hs)
 by_cases k3:kind=3
 ·subst k3;have hs:outW gs 3 r=r.out.map (bM gs):=by simp[outW]
  exact WL w Bd g fc txt A0 B1 B2 B3 B4 c0 d1 d2 d3 d4 r.back r.in' r.ahead r.out r.calls r.x _ _ _ _ hp hBd S0 S1 S2 (vS _ hs) (S3 (by have:=vS _ hs;rw[agL] at this;omega)) _ (e _ hs) (hHL _ hs)
 by_cases k5:kind=5
 ·subst k5;have hs:outW gs 5 r=r.out.map (bM gs):=by simp[outW]
  exact Yg w Bd g fc txt A0 B1 B2 B3 B4 c0 d1 d2 d3 d4 r.back r.in' r.ahead r.out r.calls r.x _ _ _ _ hp hBd S0 S1 S2 (vS _ hs) (S3 (by have:=vS _ hs;rw[agL] at this;omega)) _ (e _ hs) (hHL _ hs)
 by_cases k4:kind=4
 ·subst k4;have hs:outW gs 4 r=r.calls.map (fun c=>af c.at'++58::af c.lookup):=by simp[outW]
  exact Zg w Bd g fc txt A0 B1 B2 B3 B4 c0 d1 d2 d3 d4 r.back r.in' r.ahead r.out r.calls r.x _ _ _ _ hp hBd S0 S1 S2 (vS _ hs) hT h4 (by simp) rfl _ (e _ hs) (hHL _ hs)
 by_cases k6:kind=6
 ·subst k6;have hs:outW gs 6 r=[af r.x]:=by simp[outW]
  exact WO w Bd g fc txt A0 B1 B2 B3 B4 c0 d1 d2 d3 d4 r.back r.in' r.ahead r.out r.calls r.x _ _ _ _ hp hBd S0 S1 S2 (vS _ hs) (af r.x) (fun w' hb=>aK w' r.x (hT.all hb) hx) _ (e _ hs) (hHL _ hs)
 have hs:outW gs kind r=[]:=by simp[outW,k1,k2,k3,k4,k5,k6]
 have e':=e _ hs;have hh:=hHL _ hs;rw[ag8] at e' hh;exact NU w Bd g fc txt A0 B1 B2 B3 B4 c0 d1 d2 d3 d4 r.back r.in' r.ahead r.out r.calls r.x _ _ _ [] hp hBd S0 S1 S2 (vS _ hs) kind (by simpa using k1) (by simpa using k2) (by simpa using k3) (by simpa using k4) (by simpa using k5) (by simpa using k6) _ e' hh
theorem jE (w1:World)(hsz m:Nat)(hh:w1.heap.size=hsz)(Bd g:Nat)(fc:Nat->Value)(txt first:B)(us:List B)(hm:us.length=m)(h:Pr w1 Bd g fc txt)(hlen:txt.length+(ax first us).length<=10000000000):
  Calls Tryd.prog 20 #[.pointer (some ⟨g,0,none⟩),.string ⟨first.toArray⟩,.slice (some ⟨hsz,0,none⟩) m m] (w1.alloc (.cells (strs us).toArray 9)) fun e w'=>e= .returned (.tuple #[])/\Pr w' Bd g fc (txt++ax first us)/\KP w1 w'/\Below Bd w1 w':=by
 subst hh;subst hm;have hw:=jw first us
 have hlt:=h.lt;have hb:Below w1.heap.size w1 (w1.alloc (.cells (strs us).toArray 9)):=(agE _ _).alloc (ai _) _;have hs:Sl afJ 1 (w1.alloc (.cells (strs us).toArray 9)) (FT (w1.alloc (.cells (strs us).toArray 9))) (some ⟨w1.heap.size,0,none⟩) us:=by refine⟨strs us,Ku _ _ _,fun _=>⟨w1.heap.size,0,rfl,Be (Bk.new w1 9 (strs us).toArray) (by decide) (by decide),fun j u hu=> ?_⟩⟩;rw[Bk.cell (Bk.new w1 9 (strs us).toArray)];simpa using hu
 refine(yj _ Bd g fc txt first _ us.length us (h.below hb) hs (by omega) (by omega)).mono ?_;rintro e w' ⟨he,hp,hk,hb'⟩;exact⟨he,hp,(KP.below hb).trans hk,(hb.mono (by omega)).trans hb'⟩
theorem Fe {α:Type}(f:α->B)(l:List α)(k:Nat):((l.take k).flatMap f).length<=(l.flatMap f).length:=by
 conv=>rhs;rw[<-ag9 k l]
 simp only[aha,la];omega
theorem bu {α:Type}(f:α->B)(l:List α)(k:Nat)(x:α)(h:l[k]? =some x):((l.take k).flatMap f).length+(f x).length<=(l.flatMap f).length:=by have:=Fe f l (k+1);rw[bG f l k x h,la] at this;exact this
theorem PN.kp {w w':World}{Bd g:Nat}{fc:Nat->Value}{gs:List aeS}{txt txt':B}(h:PN w g gs)(hp:Pr w Bd g fc txt)(hp':Pr w' Bd g fc txt')(hk:KP w w'):PN w' g gs:=by obtain⟨A,c,h1,h2⟩:=h;obtain⟨ad,v,-,q,-⟩:=hp;obtain⟨ad',v',-,q',-⟩:=hp';have e1:w.cell? ⟨g,1,none⟩=some (fc 1):=Bk.cell q 1;have e2:w'.cell? ⟨g,1,none⟩=some (fc 1):=Bk.cell q' 1;exact⟨A,c,by rw[e2,<-e1,h1],hk.sl aeU.ok h2⟩
theorem OJ (w:World)(Bd g:Nat)(fc:Nat->Value)(txt:B)(gs:List aeS)(A:Option Addr)(c:Nat)(l:Lookup)(hT:Tabs w)(hG:nG<=Bd)(hP:PN w g gs)(hgl:gs.length<=1000000000000)(hp:Pr w Bd g fc txt)(hBd:Bd<=w.heap.size)
  (hA:Sl ae8 6 w (FT w) A l.rules) (hrl:l.rules.length<=10000000000) (hlen:txt.length+(di gs l).length<=10000000000):
  Calls Tryd.prog 27 #[.pointer (some ⟨g,0,none⟩),.agg #[.int .i64 l.kind,.bool l.afh,.slice A l.rules.length c]] w
   fun e w'=>e= .returned (.tuple #[])/\Pr w' Bd g fc (txt++di gs l)/\KP w w'/\Below Bd w w':=by
 obtain⟨kind,ut,rules⟩:=l;dsimp only at hA hrl ⊢;obtain⟨T0,hT0⟩:∃T0,ax iT (pick bF kind::if ut then [lK] else [])=T0:=⟨_,rfl⟩
 have hlen2:txt.length+T0.length+(rules.flatMap (kU gs kind)).length<=10000000000:=by unfold di at hlen;dsimp only at hlen;rw[hT0,la] at hlen;omega
 have HE:Hid (di gs ⟨kind,ut,rules⟩=T0++rules.flatMap (kU gs kind)):=by rw[<-hT0];rfl
 clear hlen;have HT0:=hd0 hT0;clear hT0;have hb0:Below w.heap.size w (w.alloc (.cells #[.int .i64 kind,.bool ut,.slice A rules.length c] 60)):=(agE _ _).alloc (ai _) _;have hT1:=hT.all hb0;have hp1:=hp.below hb0;have hk0:=hd0 (Bk.new w 60 #[.int .i64 kind,.bool ut,.slice A rules.length c]);have Hb0:=hd0 hb0;have hpl:=hp.lt;clear hb0;go_enter Tryd.func27,Tryd.ntmps27
 cases ut with
 |true=>
  have HT1:Hid (ax iT [pick bF kind,lK]=T0):=hd0 (by have:=HT0.out;simpa using this);have hll:txt.length+(ax iT [pick bF kind,lK]).length<=10000000000:=by rw[HT1.out];omega
  go_wp2_with (first
   |(go_at_call 48;refine(vU _ kind hT1).mono ?_;rintro e w' ⟨rfl,rfl⟩)
   |(go_at_call 20;refine(jE _ (w.heap.size+1) 2 (World.size_alloc _ _) Bd g fc txt iT [pick bF kind,lK] rfl hp1 hll).mono ?_;rintro e w1 ⟨rfl,hp2,hk2,hb2⟩;have q2:w1.cell? ⟨w.heap.size,2,none⟩=some (.slice A rules.length c):=Bk.cell (hk2.bk hk0.out (by decide) (by decide)) 2))
  go_loopw [23] (fun i wr=>∃k:Nat,k<=rules.length/\i= .int .i64 k/\Pr wr Bd g fc (txt++T0++(rules.take k).flatMap (kU gs kind))/\KP (w.alloc (.cells #[.int .i64 kind,.bool true,.slice A rules.length c] 60)) wr/\Below Bd w wr) (fun i _=>rules.length - (intOf i).toNat)
  case atStart=>exact⟨0,nz _,rfl,by rw[<-HT1.out];simpa using hp2,hk2,(Hb0.out.mono hBd).trans hb2⟩
  case round=>
   obtain⟨k,hk,rfl,hpr,hkp,hbl⟩:=hrel;have q0:wr.cell? ⟨w.heap.size,0,none⟩=some (.int .i64 kind):=Bk.cell (hkp.bk hk0.out (by decide) (by decide)) 0;have zr:w.heap.size<wr.heap.size:=World.block_lt_of_cell? _ _ q0;clear q2;by_cases hlt:k<rules.length
   ·obtain⟨b,o,x,E0,e0,E1,e1,E2,e2,E3,e3,E4,e4,rfl,-,hx,p0,p1,p2,p3,p4,p5,r5,j0,j1,j2,j3,j4⟩:=(hkp.sl ae8.ok ((KP.below Hb0.out).sl ae8.ok hA)).rule hlt;have hsn:=hd0 (bG (kU gs kind) rules k x hx.out);have hle:=bu (kU gs kind) rules k x hx.out;have hba:Below wr.heap.size wr (wr.alloc (.cells #[.slice E0 x.back.length e0,.slice E1 x.in'.length e1,.slice E2 x.ahead.length e2,.slice E3 x.out.length e3,.slice E4 x.calls.length e4,.int .i64 x.x] 78)):=(agE _ _).alloc (ai _) _;have hka:=KP.below hba;have hP0:PN wr g gs:=(hP.below Hb0.out).kp hp1 hpr hkp;have hR:=hd0 (Ko _ Bd g fc _ gs kind E0 E1 E2 E3 E4 e0 e1 e2 e3 e4 x ((hT.below hbl hG).all hba) (hP0.below hba) hgl (hpr.below hba) (nt hpl.1 (nt (ahf (agN hpl.2 (ahf zr))) hba.size)) (hka.sl aeR.ok j0) (hka.sl aeR.ok j1) (hka.sl aeR.ok j2) (hka.sl aeQ.ok j3) (hka.sl aff.ok j4) r5 (by simp only[la];omega));have BN:=hd0 hka;have AO:=hd0 hba;clear hx r5 j0 j1 j2 j3 j4 hle hka hba hP0;go_wp2_with (go_at_call 49;refine hR.out.mono ?_;rintro e w3 ⟨rfl,hp3,hk3,hb3⟩)
    go_roundw
    case rel=>exact⟨k+1,by omega,by simp,by rw[hsn.out,<-agR];exact hp3,hkp.trans (BN.out.trans hk3),hbl.trans ((AO.out.mono (by omega)).trans hb3)⟩
    case measure=>simp[intOf];omega
   obtain rfl:k=rules.length:=by omega
   rw[agK] at hpr;go_wp2
   go_end0
   refine⟨rfl,?_,(KP.below Hb0.out).trans hkp,hbl⟩;rw[HE.out,<-agR];exact hpr
 |false=>
  have HT1:Hid (ax iT [pick bF kind]=T0):=hd0 (by have:=HT0.out;simpa using this);have hll:txt.length+(ax iT [pick bF kind]).length<=10000000000:=by rw[HT1.out];omega
  go_wp2_with (first
   |(go_at_call 48;refine(vU _ kind hT1).mono ?_;rintro e w' ⟨rfl,rfl⟩)
   |(go_at_call 20;refine(jE _ (w.heap.size+1) 1 (World.size_alloc _ _) Bd g fc txt iT [pick bF kind] rfl hp1 hll).mono ?_;rintro e w1 ⟨rfl,hp2,hk2,hb2⟩;have q2:w1.cell? ⟨w.heap.size,2,none⟩=some (.slice A rules.length c):=Bk.cell (hk2.bk hk0.out (by decide) (by decide)) 2))
  go_loopw [23] (fun i wr=>∃k:Nat,k<=rules.length/\i= .int .i64 k/\Pr wr Bd g fc (txt++T0++(rules.take k).flatMap (kU gs kind))/\KP (w.alloc (.cells #[.int .i64 kind,.bool false,.slice A rules.length c] 60)) wr/\Below Bd w wr) (fun i _=>rules.length - (intOf i).toNat)
  case atStart=>exact⟨0,nz _,rfl,by rw[<-HT1.out];simpa using hp2,hk2,(Hb0.out.mono hBd).trans hb2⟩
  case round=>
   obtain⟨k,hk,rfl,hpr,hkp,hbl⟩:=hrel;have q0:wr.cell? ⟨w.heap.size,0,none⟩=some (.int .i64 kind):=Bk.cell (hkp.bk hk0.out (by decide) (by decide)) 0;have zr:w.heap.size<wr.heap.size:=World.block_lt_of_cell? _ _ q0;clear q2;by_cases hlt:k<rules.length
   ·obtain⟨b,o,x,E0,e0,E1,e1,E2,e2,E3,e3,E4,e4,rfl,-,hx,p0,p1,p2,p3,p4,p5,r5,j0,j1,j2,j3,j4⟩:=(hkp.sl ae8.ok ((KP.below Hb0.out).sl ae8.ok hA)).rule hlt;have hsn:=hd0 (bG (kU gs kind) rules k x hx.out);have hle:=bu (kU gs kind) rules k x hx.out;have hba:Below wr.heap.size wr (wr.alloc (.cells #[.slice E0 x.back.length e0,.slice E1 x.in'.length e1,.slice E2 x.ahead.length e2,.slice E3 x.out.length e3,.slice E4 x.calls.length e4,.int .i64 x.x] 78)):=(agE _ _).alloc (ai _) _;have hka:=KP.below hba;have hP0:PN wr g gs:=(hP.below Hb0.out).kp hp1 hpr hkp;have hR:=hd0 (Ko _ Bd g fc _ gs kind E0 E1 E2 E3 E4 e0 e1 e2 e3 e4 x ((hT.below hbl hG).all hba) (hP0.below hba) hgl (hpr.below hba) (nt hpl.1 (nt (ahf (agN hpl.2 (ahf zr))) hba.size)) (hka.sl aeR.ok j0) (hka.sl aeR.ok j1) (hka.sl aeR.ok j2) (hka.sl aeQ.ok j3) (hka.sl aff.ok j4) r5 (by simp only[la];omega));have BN:=hd0 hka;have AO:=hd0 hba;clear hx r5 j0 j1 j2 j3 j4 hle hka hba hP0;go_wp2_with (go_at_call 49;refine hR.out.mono ?_;rintro e w3 ⟨rfl,hp3,hk3,hb3⟩)
    go_roundw
    case rel=>exact⟨k+1,by omega,by simp,by rw[hsn.out,<-agR];exact hp3,hkp.trans (BN.out.trans hk3),hbl.trans ((AO.out.mono (by omega)).trans hb3)⟩
    case measure=>simp[intOf];omega
   obtain rfl:k=rules.length:=by omega
   rw[agK] at hpr;go_wp2
   go_end0
   refine⟨rfl,?_,(KP.below Hb0.out).trans hkp,hbl⟩;rw[HE.out,<-agR];exact hpr
end
section
open Go.RowKit
theorem Ld (w:World)(f:Fnt)(A1 A2 A3 A4 A5 A6 A7 A8:Option Addr)(c1 c2 c3 c4 c5 c6 c7 c8:Nat)(g:aeS)(B3 B4 B5 B6 B7 B8:Option Addr)(d3 d4 d5 d6 d7 d8:Nat)(h:Sl afc 4 w (Lw w) B7 g.deltas)(hl:Big g.deltas.length)(hn:Big f.regions.length)(hp:Big g.points.length):Calls Tryd.prog 97 #[.agg #[.int .i64 f.unit,.slice A1 f.aeN.length c1,.slice A2 f.chars.length c2,.slice A3 f.aeO.length c3,.slice A4 f.features.length c4,.slice A5 f.aeP.length c5,.slice A6 f.regions.length c6,.slice A7 f.funcs.length c7,.slice A8 f.cvt.length c8],.agg #[.string ⟨g.name.toArray⟩,.int .i64 g.advance,.bool g.mark,.slice B3 g.points.length d3,.slice B4 g.ends.length d4,.slice B5 g.parts.length d5,.slice B6 g.anchors.length d6,.slice B7 g.deltas.length d7,.slice B8 g.hint.length d8]] w (OkE w (g.deltas.length<=400/\∀d∈g.deltas,In f.regions.length d.region/\(-1<=d.point/\d.point<g.points.length)/\N9 d.x/\N9 d.y)):=by
 obtain⟨P,HP⟩:∃P:Prop,Hid (P=(g.deltas.length<=400/\∀d∈g.deltas,In f.regions.length d.region/\(-1<=d.point/\d.point<g.points.length)/\N9 d.x/\N9 d.y)):=⟨_,rfl⟩
 rw[<-HP.out];unfold Big at*
 have H:=hd0 h;clear h;obtain⟨Wf,hWf,hbf,bD⟩:=aB w 32 #[.int .i64 f.unit,.slice A1 f.aeN.length c1,.slice A2 f.chars.length c2,.slice A3 f.aeO.length c3,.slice A4 f.features.length c4,.slice A5 f.aeP.length c5,.slice A6 f.regions.length c6,.slice A7 f.funcs.length c7,.slice A8 f.cvt.length c8];have aS:Hid (Below w.heap.size w Wf):=hd0 hbf;have iM:=hd0 bD;obtain⟨Wg,kZ,hbg,hkg⟩:=aB Wf 57 #[.string ⟨g.name.toArray⟩,.int .i64 g.advance,.bool g.mark,.slice B3 g.points.length d3,.slice B4 g.ends.length d4,.slice B5 g.parts.length d5,.slice B6 g.anchors.length d6,.slice B7 g.deltas.length d7,.slice B8 g.hint.length d8];have bV:Hid (Below w.heap.size w Wg):=hd0 (aS.out.trans (hbg.mono aS.out.size));have aj:=hd0 hkg;have aG:Hid (Bk Wg w.heap.size 32 #[.int .i64 f.unit,.slice A1 f.aeN.length c1,.slice A2 f.chars.length c2,.slice A3 f.aeO.length c3,.slice A4 f.features.length c4,.slice A5 f.aeP.length c5,.slice A6 f.regions.length c6,.slice A7 f.funcs.length c7,.slice A8 f.cvt.length c8]):=hd0 (Bk.bel bD hbg);go_enter Tryd.func97,Tryd.ntmps97
 have hzg:=bV.out.size;clear hbf bD hbg hkg iM;have n7:Wg.cell? ⟨Wf.heap.size,7,none⟩=some (.slice B7 g.deltas.length d7):=aj.out.cell 7;by_cases hm:400<g.deltas.length
 ·have bm:decide ((400:Int)<g.deltas.length)=true:=decide_eq_true (by omega);go_wp2_with fail
  go_ret
  exact OkE.bad _ (by decide) bV.out
 have bm:decide ((400:Int)<g.deltas.length)=false:=decide_eq_false (by omega);go_wp2_with fail
 try rw[hWf]
 try rw[kZ]
 clear n7 kZ hWf;go_loopw [5] (fun i wr=>∃k:Nat,k<=g.deltas.length/\i= .int .i64 k/\Hid (Up g.deltas k (fun d=>In f.regions.length d.region/\(-1<=d.point/\d.point<g.points.length)/\N9 d.x/\N9 d.y))/\Below Wg.heap.size Wg wr) (fun i _=>g.deltas.length - (intOf i).toNat)
 case atStart=>exact⟨0,by omega,rfl,hd0 (Up.zero _ _),agE _ _⟩
 case round=>
  obtain⟨w1,rfl⟩:∃x,x=wr:=⟨_,rfl⟩
  obtain⟨k,hk,rfl,hup,hbr⟩:=hrel;have x7:=aj.out.at hbr 7 rfl;have jm:Hid (Below w.heap.size w w1):=hd0 (bV.out.trans (hbr.mono hzg));by_cases hlt:k<g.deltas.length
  ·obtain⟨b,o,x,rfl,hb,hx,q0,q1,q2,q3,-,-,-,-⟩:=(H.out.lw afc.ok jm.out).delta hlt;obtain⟨W1,hW1,hb1,hk1⟩:=aB w1 70 #[.int .i64 x.region,.int .i64 x.point,.int .i64 x.x,.int .i64 x.y];have HB1:Hid (Below Wg.heap.size Wg W1):=hd0 (hbr.trans (hb1.mono hbr.size));have iw:Hid (Below w.heap.size w W1):=hd0 (bV.out.trans (HB1.out.mono hzg));have y6:=aG.out.at HB1.out 6 rfl;have y3:=aj.out.at HB1.out 3 rfl;have y7:=aj.out.at HB1.out 7 rfl;have p0:=hk1.cell 0;have p1:=hk1.cell 1;have p2:=hk1.cell 2;have p3:=hk1.cell 3;clear hb hb1 hk1 hbr;by_cases h1:x.region<0
   ·have bh1:decide (x.region<0)=true:=decide_eq_true h1;go_wp2_with fail
    go_ret
    exact OkE.bad _ (by decide) iw.out
   have bh1:decide (x.region<0)=false:=decide_eq_false h1;by_cases h2:(f.regions.length:Int)<=x.region
   ·have kF:decide ((f.regions.length:Int)<=x.region)=true:=decide_eq_true h2;go_wp2_with fail
    go_ret
    exact OkE.bad _ (by decide) iw.out
   have kF:decide ((f.regions.length:Int)<=x.region)=false:=decide_eq_false h2;by_cases h3:x.point< -1
   ·have jJ:decide (x.point< -1)=true:=decide_eq_true h3;go_wp2_with (first|(go_at_call 82;refine(bZ _ _).mono ?_;rintro e w' ⟨rfl,rfl⟩))
    go_ret
    exact OkE.bad _ (by decide) iw.out
   have jJ:decide (x.point< -1)=false:=decide_eq_false h3;by_cases h4:(g.points.length:Int)<=x.point
   ·have qX:decide ((g.points.length:Int)<=x.point)=true:=decide_eq_true h4;go_wp2_with (first|(go_at_call 82;refine(bZ _ _).mono ?_;rintro e w' ⟨rfl,rfl⟩))
    go_ret
    exact OkE.bad _ (by decide) iw.out
   have qX:decide ((g.points.length:Int)<=x.point)=false:=decide_eq_false h4;by_cases h5:dX x.x=false
   ·go_wp2_with (first|(go_at_call 82;refine(bZ _ _).mono ?_;rintro e w' ⟨rfl,rfl⟩))
    go_ret
    exact OkE.bad _ (by decide) iw.out
   have sS:dX x.x=true:=by simpa using h5
   by_cases h6:dX x.y=false
   ·go_wp2_with (first|(go_at_call 82;refine(bZ _ _).mono ?_;rintro e w' ⟨rfl,rfl⟩))
    go_ret
    exact OkE.bad _ (by decide) iw.out
   have O9:dX x.y=true:=by simpa using h6
   by_cases h7:x.point= -1/\¬x.y=0
   ·obtain⟨a1,a2⟩:=h7;have Uf:(x.point== -1)=true:=by simp[a1]
    have VT:(x.y !=0)=true:=by simpa using a2
    clear a1 a2;go_wp2_with (first|(go_at_call 82;refine(bZ _ _).mono ?_;rintro e w' ⟨rfl,rfl⟩))
    go_ret
    exact OkE.bad _ (by decide) iw.out
   have bY:=hd0 (hup.out.snoc hx.out ⟨In.of h1 h2,⟨by omega,by omega⟩,kz sS,kz O9⟩);have hw7:((x.point== -1)=true/\(x.y !=0)=false)\/(x.point== -1)=false:=by
    by_cases a1:x.point= -1
    ·exact .inl ⟨by simp[a1],by have:x.y=0:=Decidable.not_not.1 fun a2=>h7 ⟨a1,a2⟩;simp[this]⟩
    exact .inr (by simpa using a1)
   clear hx hup h7;rcases hw7 with⟨Uf,VT⟩|Uf
   all_goals
    by_cases hk0:k=0
    ·subst hk0;have e0:((0:Nat):Int)=0:=rfl;rw[e0];simp only[Nat.zero_mul,Nat.add_zero] at q0 q1 q2 q3;go_wp2_with (first|(go_at_call 82;refine(bZ _ _).mono ?_;rintro e w' ⟨rfl,rfl⟩))
     go_quiet (fail)
     go_wp2_with fail
     go_roundw
     case rel=>exact⟨0+1,by omega,by simp,bY,below_drewN HB1.out _⟩
     case measure=>simp[intOf];omega
    obtain⟨j,rfl⟩:∃j,k=j+1:=⟨k - 1,by omega⟩
    have bk:decide (0<((j+1:Nat):Int))=true:=decide_eq_true (by omega);have ej:((j+1:Nat):Int) - 1=(j:Int):=by omega
    obtain⟨b',o',x2,e',hb',hx2,v0,v1,v2,v3,-,-,-,-⟩:=(H.out.lw afc.ok iw.out).delta (k:=j) (by omega);obtain⟨rfl,rfl⟩:b=b'/\o=o':=by simpa using e'
    clear hb' e' hx2 v2 v3;by_cases m1:x.region<x2.region
    ·have uy:decide (x.region<x2.region)=true:=decide_eq_true m1;go_wp2_with (first|(go_at_call 82;refine(bZ _ _).mono ?_;rintro e w' ⟨rfl,rfl⟩))
     go_quiet (fail)
     go_wp2_with fail
     go_ret
     exact OkE.bad _ (by decide) (below_drewN iw.out _)
    have uy:decide (x.region<x2.region)=false:=decide_eq_false m1;by_cases m2:¬x.region=x2.region
    ·have AY:(x.region==x2.region)=false:=by simpa using m2
     clear m2;go_wp2_with (first|(go_at_call 82;refine(bZ _ _).mono ?_;rintro e w' ⟨rfl,rfl⟩))
     go_quiet (fail)
     go_wp2_with fail
     go_roundw
     case rel=>exact⟨j+1+1,by omega,by simp,bY,below_drewN HB1.out _⟩
     case measure=>simp[intOf];omega
    have AY:(x.region==x2.region)=true:=by simpa using m2
    clear m2 m1;by_cases m3:x.point<=x2.point
    ·have JY:decide (x.point<=x2.point)=true:=decide_eq_true m3;go_wp2_with (first|(go_at_call 82;refine(bZ _ _).mono ?_;rintro e w' ⟨rfl,rfl⟩))
     go_quiet (fail)
     go_wp2_with fail
     go_ret
     exact OkE.bad _ (by decide) (below_drewN iw.out _)
    have JY:decide (x.point<=x2.point)=false:=decide_eq_false m3;go_wp2_with (first|(go_at_call 82;refine(bZ _ _).mono ?_;rintro e w' ⟨rfl,rfl⟩))
    go_quiet (fail)
    go_wp2_with fail
    go_roundw
    case rel=>exact⟨j+1+1,by omega,by simp,bY,below_drewN HB1.out _⟩
    case measure=>simp[intOf];omega
  obtain rfl:k=g.deltas.length:=by omega
  have hg:P:=HP.out.mpr ⟨by omega,fun x hx=>hup.out.all x hx⟩;clear hbr;go_wp2_with fail
  go_ret
  exact OkE.good hg jm.out
end
end Go.Proofs.YtkijckccfookeaaDoor
