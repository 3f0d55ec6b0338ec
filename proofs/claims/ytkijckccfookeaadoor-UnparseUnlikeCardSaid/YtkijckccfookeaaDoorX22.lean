/- Lemmas. -/
import Derived.Test.YtkijckccfookeaaDoorX21
set_option linter.unusedVariables false
set_option linter.unusedSimpArgs false
set_option maxRecDepth 100000
set_option maxHeartbeats 32000000
namespace Go.Proofs.YtkijckccfookeaaDoor
section
open Go.RowKit Go.Shelf
theorem Fl.flat {α:Type}{R:Rel α}{size:Nat}(f:α->List Value)(hf:∀x,(f x).length=size)(hR:∀w S cs x,R w S cs x->cs=f x){w:World}{S:Bs}{cells:List Value}{xs:List α}(h:Fl R size w S cells xs):cells=xs.flatMap f:=by
 induction xs generalizing cells with
 |nil=>simpa [Fl] using h.1
 |cons x xs ih=>
  have hl:=h.1;simp only[aV] at hl;obtain⟨cs,r1,r2,r3⟩:=h.2 0 x rfl;obtain rfl:=hR _ _ _ _ r1;have e1:cells.take size=f x:=by
   apply List.ext_getElem?;intro i;by_cases hi:i<size
   ·have:i<(f x).length:=by rw[hf];exact hi
    have h2:=r3 i _ (agH this);rw[ag6,if_pos hi];rw[Nat.zero_mul,ahh] at h2;rw[h2,agH this]
   rw[ag2 (by simp;omega),ag2 (by rw[hf];omega)]
  have e2:cells.drop size=xs.flatMap f:=by apply ih;refine⟨by simp[hl,ahq],fun k y hy=> ?_⟩;obtain⟨cs,s1,s2,s3⟩:=h.2 (k+1) y (by simpa using hy);refine⟨cs,s1,s2,fun j u hu=> ?_⟩;rw[List.getElem?_drop,show size+(k*size+j)=(k+1)*size+j by rw[ahq];omega];exact s3 j u hu
  rw[agV,<-e1,<-e2,ag9]
def sN (p:Pt):List Value:=[.int .i64 p.x,.int .i64 p.y,.bool p.on]
def fP (l:List Pt):List Value:=l.flatMap sN
theorem FP (l:List Pt):∀u∈fP l,u.oneCell'=true:=by intro u hu;simp only[fP,ahe] at hu;obtain⟨p,_,hp⟩:=hu;simp only[sN,agQ,ahb,or_false] at hp;rcases hp with rfl|rfl|rfl<;>rfl
theorem Sl.rd {α:Type}{R:Rel α}{size:Nat}(f:α->List Value)(hf:∀x,(f x).length=size)(hR:∀w S cs x,R w S cs x->cs=f x){w:World}{A:Option Addr}{xs:List α}(h:Sl R size w (FT w) A xs):Rd w w.heap.size A xs.length size (xs.flatMap f):=by
 obtain⟨cells,h1,h2⟩:=h;have e:=h1.flat f hf hR;subst e;exact⟨h1.1,fun h0=>by
  obtain⟨b,o,e,hb,hc⟩:=h2 h0;obtain⟨ob,hb1,-⟩:=hb;exact⟨b,o,e,(agI.1 hb1).1,hc⟩⟩
theorem Sl.agz {w:World}{A:Option Addr}{xs:List Pt}(h:Sl PtR 3 w (FT w) A xs):Rd w w.heap.size A xs.length 3 (fP xs):=h.rd sN (fun _=>rfl) (fun _ _ _ _ h=>h.1)
theorem OU (xs:List Int):xs.flatMap (fun z=>[Value.int .i64 z])=aN xs:=by
 induction xs with
 |nil=>rfl
 |cons x xs ih=>rw[agV,ih];rfl
theorem Sl.agt {w:World}{A:Option Addr}{xs:List Int}(h:Sl aeQ 1 w (FT w) A xs):Rd w w.heap.size A xs.length 1 (aN xs):=by
 have:=h.rd (fun z=>[.int .i64 z]) (fun _=>rfl) (fun _ _ _ _ h=>h.1)
 rwa [OU] at this
theorem abC {w:World}{A:Option Addr}{xs:List Pt}(h:Sl PtR 3 w (FT w) A xs):∀p∈xs,I64 p.x/\I64 p.y:=by intro p hp;obtain⟨k,hk⟩:=agX.1 hp;obtain⟨b,o,x,-,-,hx,-,-,-,r0,r1⟩:=h.pt (agG.1 hk).1;have:=hx.out;rw[hk] at this;cases this;exact⟨r0,r1⟩
def qF (pts:List Pt)(f e:Nat):List Pt:=(pts.take (e+1)).drop f
theorem SA (pts:List Pt)(k:Nat)(p:Pt)(h:pts[k]? =some p):(fP pts)[k*3]? =some (.int .i64 p.x)/\(fP pts)[k*3+1]? =some (.int .i64 p.y)/\(fP pts)[k*3+2]? =some (.bool p.on):=by
 induction pts generalizing k with
 |nil=>simp at h
 |cons q ps ih=>
  cases k with
  |zero=>simp at h;subst h;simp[fP,sN]
  |succ k=>
   have:=ih k (by simpa using h);have e:fP (q::ps)=sN q++fP ps:=rfl;simp only[e];refine⟨?_,?_,?_⟩<;>rw[agZ (by simp[sN];omega)]<;>simp only[sN,aV,ln]
   ·rw[show(k+1)*3 - (0+1+1+1)=k*3 by omega];exact this.1
   ·rw[show(k+1)*3+1 - (0+1+1+1)=k*3+1 by omega];exact this.2.1
   rw[show(k+1)*3+2 - (0+1+1+1)=k*3+2 by omega];exact this.2.2
theorem VB {W:World}{g n:Nat}{pts:List Pt}(h:RdT W 146 (some ⟨g,0,none⟩) n 3 (fP pts))(hn:n=pts.length)(hI:∀p∈pts,I64 p.x/\I64 p.y)(f e:Nat)(hfe:f<=e)(he:e<n):Sl PtR 3 W (FT W) (some ⟨g,f*3,none⟩) (qF pts f e):=by
 obtain⟨b,o,cur,e1,hb,hc⟩:=h.2 (by omega);simp only[ag3,Addr.mk.injEq,and_true] at e1;obtain⟨rfl,rfl⟩:=e1;have key:∀k x,(qF pts f e)[k]? =some x->pts[f+k]? =some x:=by
  intro k x hx;rw[qF,List.getElem?_drop,ag6] at hx;split at hx
  ·exact hx
  cases hx
 refine⟨fP (qF pts f e),⟨?_,fun k x hx=> ?_⟩,fun _=>⟨g,f*3,rfl,Be hb (by decide) (by decide),fun j u hu=> ?_⟩⟩
 ·have:∀l:List Pt,(fP l).length=l.length*3:=by
   intro l;induction l with
   |nil=>rfl
   |cons x l ih=>simp only[fP,agV,la,sN,aV,ln] at ih ⊢;omega
  exact this _
 ·refine⟨sN x,⟨rfl,hI x (agM (key k x hx))⟩,rfl,fun j u hu=> ?_⟩;obtain⟨q0,q1,q2⟩:=SA _ k x hx
  match j,hu with
  |0,hu=>simp[sN] at hu;subst hu;exact q0
  |1,hu=>simp[sN] at hu;subst hu;exact q1
  |2,hu=>simp[sN] at hu;subst hu;exact q2
 rw[Bk.cell hb];have h5:(fP pts)[f*3+j]? =some u:=by
  have e2:fP (qF pts f e)=((fP pts).take ((e+1)*3)).drop (f*3):=by
   have a1:∀(l:List Pt) (k:Nat),fP (l.take k)=(fP l).take (k*3):=by
    intro l;induction l with
    |nil=>intro k;simp[fP]
    |cons x l ih=>
     intro k;cases k with
     |zero=>simp[fP]
     |succ k=>have:=ih k;simp only[fP,List.take_succ_cons,agV] at this ⊢;rw[this,show(k+1)*3=k*3+3 by omega];simp[sN]
   have a2:∀(l:List Pt) (k:Nat),fP (l.drop k)=(fP l).drop (k*3):=by
    intro l;induction l with
    |nil=>intro k;simp[fP]
    |cons x l ih=>
     intro k;cases k with
     |zero=>simp[fP]
     |succ k=>have:=ih k;simp only[fP,List.drop_succ_cons,agV] at this ⊢;rw[this,show(k+1)*3=k*3+3 by omega];simp[sN]
   rw[qF,a2,a1]
  rw[e2,List.getElem?_drop,ag6] at hu;split at hu
  ·exact hu
  cases hu
 have:=hc _ _ h5
 rwa [ahh] at this
theorem Gv (pts:List Pt)(f e:Nat)(h:e<pts.length):(qF pts f e).length=e+1 - f:=by simp[qF];omega
def qK (pts:List Pt)(x:xW):B:=ax iG ((qF pts x.2.1 x.2.2.1).map iE)
theorem Qz (pts:List Pt)(es:List Int):∀(k f:Nat),(lD pts.length k f es).map (fun p=>qF pts p.2.1 p.2.2)=dK pts f es:=by
 induction es with
 |nil=>intro k f;rfl
 |cons e es ih=>
  intro k f;rw[lD,dK];by_cases h:(f:Int)<=e/\e<(pts.length:Int)
  ·rw[if_pos h,if_neg (by omega),agO,ih];rfl
  rw[if_neg h,if_pos (by omega)];rfl
theorem AL (pts:List Pt)(es:List Int)(g:Nat):(BL g (lD pts.length 0 0 es)).flatMap (qK pts)=(dK pts 0 es).flatMap (fun c=>ax iG (c.map iE)):=by rw[<-Qz pts es 0 0,BL,List.flatMap_map,List.flatMap_map];rfl
def oH (w W0:World)(Bd g:Nat)(fc:Nat->Value)(T:B)(W:World):Prop:=Pr W Bd g fc T/\KP W0 W/\Below Bd w W
theorem Ic {W W':World}{Bd g:Nat}{fc:Nat->Value}{T:B}{row:Option Nat}(h:Pr W Bd g fc T)(hg:W.grownBy W' row)(hr:∀r,row=some r->∃o:Obj,W.heap[r]? =some o/\o.isCells=false):Pr W' Bd g fc T:=by
 obtain⟨ad,v,h1,h2,h3,h4⟩:=h;refine⟨ad,v,h1,(grownBy_keeps_cells hg hr h2 rfl).trans h2,h3,h4.kept hg ?_⟩;cases hrow:row with
 |none=>cases hv:v.ownBlock<;>simp
 |some r=>refine .inr (fun e=> ?_);obtain⟨o,ho,hc⟩:=hr r hrow;obtain⟨cur,hk⟩:=gW h4 r e;have hk2:W.heap[r]? =_:=hk;rw[hk2] at ho;cases ho;cases hc
theorem Ht {W0 W W':World}{row:Option Nat}(h:KP W0 W)(hg:W.grownBy W' row)(hr:∀r,row=some r->W0.heap.size<=r):KP W0 W':=
 ⟨fun b o hb hn=>by
  have h1:=h.same b o hb hn;refine(hg.block b (agI.1 h1).1 (fun e=> ?_)).trans h1;have:=hr b e.symm;have:=(agI.1 hb).1;omega,nt h.size hg.size⟩
theorem VH {w W0:World}{Bd g B0:Nat}{fc:Nat->Value}(F:List xW->B)(hB:W0.heap.size<=B0)(hw:Bd<=W0.heap.size):OwnFrom B0 (fun pre W=>oH w W0 Bd g fc (F pre) W):=by intro s A C row hs hg hr;obtain⟨h1,h2,h3⟩:=hs;refine⟨Ic h1 hg (fun r e=>(hr r e).2),Ht h2 hg (fun r e=>nt hB (hr r e).1),?_⟩;exact h3.grown hg (nt hw h2.size) (fun r e=>nt (nt hw hB) (hr r e).1)
end
section
open Go.RowKit
def TB (t:afm):Prop:= -64<=t.start/\t.start<=t.peak/\t.peak<=t.stop/\t.stop<=64
def AU (a:afp):Prop:=nameB a.name=true/\N9 a.min'/\N9 a.afk/\N9 a.max'
def Ij (n:Nat)(r:Region):Prop:=r.ae0.length=n/\∀t∈r.ae0,TB t
theorem Up.all' {α:Type}{l:List α}{n:Nat}{P:α->Prop}(h:Up l n P)(e:l.length=n):∀x∈l,P x:=fun x hx=>h x (by rwa [agW (Nat.le_of_eq e)])
theorem Qn (w:World)(f:Fnt)(A1 A2 A3 A4 A5 A6 A7 A8:Option Addr)(c1 c2 c3 c4 c5 c6 c7 c8:Nat)(hF:FIn ⟨A1,c1,A2,c2,A3,c3,A4,c4,A5,c5,A6,c6,A7,c7,A8,c8⟩ f w)(hn:Big f.aeP.length)(hm:Big f.regions.length)(hN:∀a∈f.aeP,Big a.name.length)(hT:∀r∈f.regions,Big r.ae0.length):Calls Tryd.prog 58 #[.agg #[.int .i64 f.unit,.slice A1 f.aeN.length c1,.slice A2 f.chars.length c2,.slice A3 f.aeO.length c3,.slice A4 f.features.length c4,.slice A5 f.aeP.length c5,.slice A6 f.regions.length c6,.slice A7 f.funcs.length c7,.slice A8 f.cvt.length c8]] w (Aj w ((f.aeP.length<=3/\∀a∈f.aeP,AU a)/\f.regions.length<=16/\∀r∈f.regions,Ij f.aeP.length r)):=by
 obtain⟨P,HP⟩:∃P:Prop,Hid (P=((f.aeP.length<=3/\∀a∈f.aeP,AU a)/\f.regions.length<=16/\∀r∈f.regions,Ij f.aeP.length r)):=⟨_,rfl⟩
 rw[<-HP.out];unfold Big at hn hm;obtain⟨Wf,hWf,hbf,bD⟩:=aB w 32 #[.int .i64 f.unit,.slice A1 f.aeN.length c1,.slice A2 f.chars.length c2,.slice A3 f.aeO.length c3,.slice A4 f.features.length c4,.slice A5 f.aeP.length c5,.slice A6 f.regions.length c6,.slice A7 f.funcs.length c7,.slice A8 f.cvt.length c8];have aS:Hid (Below w.heap.size w Wf):=hd0 hbf;have iM:=hd0 bD;have jK:=hd0 (hF.below hbf);obtain⟨Wg,kZ,hbg,hkg⟩:=aB Wf 107 #[.int .i64 0,.int .i64 0];have bV:Hid (Below w.heap.size w Wg):=hd0 (aS.out.trans (hbg.mono aS.out.size));have aj:=hd0 hkg;have aG:Hid (Bk Wg w.heap.size 32 #[.int .i64 f.unit,.slice A1 f.aeN.length c1,.slice A2 f.chars.length c2,.slice A3 f.aeO.length c3,.slice A4 f.features.length c4,.slice A5 f.aeP.length c5,.slice A6 f.regions.length c6,.slice A7 f.funcs.length c7,.slice A8 f.cvt.length c8]):=hd0 (Bk.bel bD hbg);have HF2:=hd0 (jK.out.below hbg);have hzg:=bV.out.size;have kX:Hid (Below Wg.heap.size Wg Wg):=hd0 (agE _ _);have k5:=aG.out.cell 5;have g0:=hkg.cell 0;have g1:=hkg.cell 1;have z0:=hkg.frozen 0;have z1:=hkg.frozen 1;clear hF hbf bD hbg hkg jK;go_enter Tryd.func58,Tryd.ntmps58
 by_cases h1:3<f.aeP.length
 ·have bh1:decide ((3:Int)<f.aeP.length)=true:=decide_eq_true (by omega);go_wp2_with fail
  exact aT rfl aj.out kX.out aS.out.size bV.out _ _ rfl (fun h=>absurd h (by decide))
 have bh1:decide ((3:Int)<f.aeP.length)=false:=decide_eq_false (by omega);go_wp2_with fail
 try clear hWf
 try clear kZ
 go_loopw [3] (fun i wr=>∃q:Nat,q<=f.aeP.length/\i= .int .i64 q/\Hid (Up f.aeP q AU)/\Below Wg.heap.size Wg wr) (fun i _=>f.aeP.length - (intOf i).toNat)
 case atStart=>exact⟨0,by omega,rfl,hd0 (Up.zero _ _),agE _ _⟩
 case round=>
  obtain⟨w5,rfl⟩:∃x,x=wr:=⟨_,rfl⟩
  obtain⟨q,hq,rfl,hup,hb5⟩:=hrel;have gq:Hid (Below Wg.heap.size Wg w5):=hd0 hb5;have E5:Hid (Below w.heap.size w w5):=hd0 (bV.out.trans (hb5.mono hzg));clear k5;clear g0 g1 z0 z1;have k5:=aG.out.at hb5 5 rfl;have k6:=aG.out.at hb5 6 rfl;have g0:=aj.out.at hb5 0 rfl;have g1:=aj.out.at hb5 1 rfl;have z0:=(aj.out.bel hb5).frozen 0;have z1:=(aj.out.bel hb5).frozen 1;by_cases hlt:q<f.aeP.length
  ·clear k6;obtain⟨b,o,x,rfl,hb,hx,q0,q1,q2,q3,-⟩:=(HF2.out.aeP.lw ae2.ok hb5).afE hlt;obtain⟨W3,hW3,hb3,hk3⟩:=aB w5 84 #[.string ⟨x.name.toArray⟩,.int .i64 x.min',.int .i64 x.afk,.int .i64 x.max'];have HB3:Hid (Below Wg.heap.size Wg W3):=hd0 (hb5.trans (hb3.mono hb5.size));have E3:Hid (Below w.heap.size w W3):=hd0 (bV.out.trans (HB3.out.mono hzg));have xe:=hd0 hk3;have p0:=hk3.cell 0;have HO:=hd0 (FZ W3 x.name (hN x (agM hx.out)));clear hb hb3 hk3 hb5;go_wp2_with fail
   refine HO.out.mono ?_;rintro e w4 ⟨b4,rfl,BI,hb4⟩;have qY:Below Wg.heap.size Wg w4:=HB3.out.trans (hb4.mono HB3.out.size);have HB4:Hid (Below Wg.heap.size Wg w4):=hd0 qY;have E4:Hid (Below w.heap.size w w4):=hd0 (bV.out.trans (qY.mono hzg));clear k5;clear g0 g1 z0 z1;have k5:=aG.out.at qY 5 rfl;have g0:=aj.out.at qY 0 rfl;have g1:=aj.out.at qY 1 rfl;have z0:=(aj.out.bel qY).frozen 0;have z1:=(aj.out.bel qY).frozen 1;clear HO qY q0 q1 q2 q3 hW3;cases b4
   ·clear BI hb4;go_wp2_with fail
    exact aT rfl aj.out HB4.out aS.out.size E4.out _ _ rfl (fun h=>absurd h (by decide))
   have HN:=hd0 (BI rfl);clear BI;go_wp2_with fail
   go_loopw [6] (fun i wr=>∃j:Nat,j<=q/\i= .int .i64 j/\Below W3.heap.size W3 wr) (fun i _=>q - (intOf i).toNat)
   case atStart=>exact⟨0,by omega,rfl,hb4⟩
   case round=>
    obtain⟨w6,rfl⟩:∃x,x=wr:=⟨_,rfl⟩
    obtain⟨j,hj,rfl,oU⟩:=hrel;have hb6:Below Wg.heap.size Wg w6:=HB3.out.trans (oU.mono HB3.out.size);have dU:Hid (Below Wg.heap.size Wg w6):=hd0 hb6;have E6:Hid (Below w.heap.size w w6):=hd0 (bV.out.trans (hb6.mono hzg));clear k5;clear g0 g1 z0 z1;have k5:=aG.out.at hb6 5 rfl;have g0:=aj.out.at hb6 0 rfl;have g1:=aj.out.at hb6 1 rfl;have z0:=(aj.out.bel hb6).frozen 0;have z1:=(aj.out.bel hb6).frozen 1;have aaU:=hd0 oU;clear p0;have p0:=xe.out.at oU 0 rfl;have p1:=xe.out.at oU 1 rfl;have p2:=xe.out.at oU 2 rfl;have p3:=xe.out.at oU 3 rfl;by_cases hjq:j<q
    ·obtain⟨b2,o2,z,e2,hb2,hz,v0,-⟩:=(HF2.out.aeP.lw ae2.ok hb6).afE (k:=j) (by omega);obtain⟨rfl,rfl⟩:b=b2/\o=o2:=by simpa using e2
     clear hb2 e2 hb6 hb4 p1 p2 p3 oU;by_cases hnm:z.name=x.name
     ·have hq2:(z.name==x.name)=true:=by rw[hnm];simp
      clear hnm;go_wp2_with fail
      go_quiet (fail)
      go_wp2_with fail
      exact aT rfl aj.out (below_drewN dU.out _) aS.out.size (below_drewN E6.out _) _ _ rfl (fun h=>absurd h (by decide))
     have hq2:(z.name==x.name)=false:=by simpa using hnm
     clear hnm hz;go_wp2_with fail
     go_quiet (fail)
     go_wp2_with fail
     go_roundw
     case rel=>exact⟨j+1,by omega,by simp,below_drewN aaU.out _⟩
     case measure=>simp[intOf];omega
    obtain rfl:q=j:=by omega
    clear hb6 hb4 p0 k5;by_cases m1:dX x.min'=false\/dX x.max'=false\/x.afk<x.min'\/x.max'<x.afk
    ·have hm:∃c1 c2 c3 c4:Bool,dX x.min'=c1/\dX x.max'=c2/\decide (x.afk<x.min')=c3/\decide (x.max'<x.afk)=c4/\((c3||c4)|| !c1|| !c2)=true:=⟨_,_,_,_,rfl,rfl,rfl,rfl,by
      rcases m1 with m|m|m|m<;>simp[m]⟩
     clear m1;obtain⟨c1,c2,c3,c4,M1,M2,M3,M4,M5⟩:=hm;cases c3<;>cases c4<;>cases c1<;>cases c2<;>first
      |(exfalso;revert M5;decide)
      |(clear M5;go_wp2_with (first|(go_at_call 82;refine(bZ _ _).mono ?_;rintro e w' ⟨rfl,rfl⟩));exact aT rfl aj.out dU.out aS.out.size E6.out _ _ rfl (fun h=>absurd h (by decide)))
    have uy:dX x.min'=true:=by cases h:dX x.min'<;>simp_all
    have AY:dX x.max'=true:=by cases h:dX x.max'<;>simp_all
    have JY:decide (x.afk<x.min')=false:=decide_eq_false fun h=>m1 (.inr (.inr (.inl h)))
    have UA:decide (x.max'<x.afk)=false:=decide_eq_false fun h=>m1 (.inr (.inr (.inr h)))
    have a3:=of_decide_eq_false JY;have a4:=of_decide_eq_false UA;clear m1;have n1:=kz uy;have n2:=kz AY;have bY:=hd0 (hup.out.snoc hx.out (show AU x from⟨HN.out,n1,⟨by unfold N9 at n1 n2;omega,by unfold N9 at n1 n2;omega⟩,n2⟩));clear n1 n2;go_wp2_with (first|(go_at_call 82;refine(bZ _ _).mono ?_;rintro e w' ⟨rfl,rfl⟩))
    go_roundw
    case rel=>exact⟨q+1,by omega,by simp,bY,dU.out⟩
    case measure=>simp[intOf];omega
  obtain rfl:q=f.aeP.length:=by omega
  have HU:=hd0 (fun x (hx:x∈f.aeP)=>hup.out.all x hx);clear hup hb5;by_cases h3:16<f.regions.length
  ·have jJ:decide ((16:Int)<f.regions.length)=true:=decide_eq_true (by omega);go_wp2_with fail
   exact aT rfl aj.out gq.out aS.out.size E5.out _ _ rfl (fun h=>absurd h (by decide))
  have jJ:decide ((16:Int)<f.regions.length)=false:=decide_eq_false (by omega);go_wp2_with fail
  go_loopw [9] (fun i wr=>∃q:Nat,q<=f.regions.length/\i= .int .i64 q/\Hid (Up f.regions q (Ij f.aeP.length))/\Below Wg.heap.size Wg wr) (fun i _=>f.regions.length - (intOf i).toNat)
  case atStart=>exact⟨0,by omega,rfl,hd0 (Up.zero _ _),gq.out⟩
  case round=>
   obtain⟨w7,rfl⟩:∃x,x=wr:=⟨_,rfl⟩
   obtain⟨q,hq,rfl,hup,hb7⟩:=hrel;have jI:Hid (Below Wg.heap.size Wg w7):=hd0 hb7;have E7:Hid (Below w.heap.size w w7):=hd0 (bV.out.trans (hb7.mono hzg));clear k5 k6;clear g0 g1 z0 z1;have k5:=aG.out.at hb7 5 rfl;have k6:=aG.out.at hb7 6 rfl;have g0:=aj.out.at hb7 0 rfl;have g1:=aj.out.at hb7 1 rfl;have z0:=(aj.out.bel hb7).frozen 0;have z1:=(aj.out.bel hb7).frozen 1;by_cases hlt:q<f.regions.length
   ·obtain⟨b,o,y,D,t,hA6,hbl,hx,q0,s0⟩:=HF2.out.regs.region hlt;simp only at hA6;subst hA6;have Q0:=hd0 q0;have HT:=hd0 s0;have htB:y.ae0.length<=10000000000000:=hT y (agM hx.out);clear q0 s0;have q0:=((aP hb7).1 _ (o+q) hbl).trans Q0.out;clear hb7;by_cases htl:y.ae0.length=f.aeP.length
    ·have ht2:((y.ae0.length:Int) !=(f.aeP.length:Int))=false:=by rw[htl];simp
     go_wp2_with fail
     go_quiet (fail)
     go_wp2_with fail
     go_loopw [10] (fun i wr=>∃j:Nat,j<=f.aeP.length/\i= .int .i64 j/\Hid (Up y.ae0 j TB)/\Below Wg.heap.size Wg wr) (fun i _=>f.aeP.length - (intOf i).toNat)
     case atStart=>exact⟨0,by omega,rfl,hd0 (Up.zero _ _),(below_drewN jI.out _)⟩
     case round=>
      obtain⟨w8,rfl⟩:∃x,x=wr:=⟨_,rfl⟩
      obtain⟨j,hj,rfl,XH,hb8⟩:=hrel;have lg:Hid (Below Wg.heap.size Wg w8):=hd0 hb8;have E8:Hid (Below w.heap.size w w8):=hd0 (bV.out.trans (hb8.mono hzg));clear k5 k6;clear g0 g1 z0 z1;have k5:=aG.out.at hb8 5 rfl;have k6:=aG.out.at hb8 6 rfl;have g0:=aj.out.at hb8 0 rfl;have g1:=aj.out.at hb8 1 rfl;have z0:=(aj.out.bel hb8).frozen 0;have z1:=(aj.out.bel hb8).frozen 1;clear q0;have q0:=((aP hb8).1 _ (o+q) hbl).trans Q0.out;by_cases hjt:j<f.aeP.length
      ·obtain⟨b2,o2,t,rfl,hb2,ht,v0,v1,v2,-⟩:=(HT.out.lw afu.ok hb8).agk (k:=j) (by omega);have HO:=hd0 (UQ w8 t.start t.peak t.stop);clear hb2 hb8;go_wp2_with fail
       refine HO.out.mono ?_;rintro e w9 ⟨b9,rfl,zI,XC⟩;have jO:Below Wg.heap.size Wg w9:=lg.out.trans (XC.mono lg.out.size);have fM:Hid (Below Wg.heap.size Wg w9):=hd0 jO;have E9:Hid (Below w.heap.size w w9):=hd0 (bV.out.trans (jO.mono hzg));clear k5 k6;clear g0 g1 z0 z1;have k5:=aG.out.at jO 5 rfl;have k6:=aG.out.at jO 6 rfl;have g0:=aj.out.at jO 0 rfl;have g1:=aj.out.at jO 1 rfl;have z0:=(aj.out.bel jO).frozen 0;have z1:=(aj.out.bel jO).frozen 1;clear HO jO XC;cases b9
       ·clear zI;go_wp2_with fail
        exact aT rfl aj.out fM.out aS.out.size E9.out _ _ rfl (fun h=>absurd h (by decide))
       have bY:=hd0 (XH.out.snoc ht.out (zI rfl));clear zI;go_wp2_with fail
       go_roundw
       case rel=>exact⟨j+1,by omega,by simp,bY,fM.out⟩
       case measure=>simp[intOf];omega
      obtain rfl:j=f.aeP.length:=by omega
      have bY:=hd0 (hup.out.snoc hx.out (⟨htl,fun t ht=>XH.out.all' htl t ht⟩:Ij f.aeP.length y));clear hb8;go_wp2_with fail
      go_roundw
      case rel=>exact⟨q+1,by omega,by simp,bY,lg.out⟩
      case measure=>simp[intOf];omega
    have ht2:((y.ae0.length:Int) !=(f.aeP.length:Int))=true:=eU (by omega);go_wp2_with fail
    go_quiet (fail)
    go_wp2_with fail
    exact aT rfl aj.out (below_drewN jI.out _) aS.out.size (below_drewN E7.out _) _ _ rfl (fun h=>absurd h (by decide))
   obtain rfl:q=f.regions.length:=by omega
   have hg:P:=HP.out.mpr ⟨⟨by omega,HU.out⟩,by omega,fun n hn=>hup.out.all n hn⟩;clear hb7;go_wp2_with fail
   exact aT rfl aj.out jI.out aS.out.size E7.out 0 _ rfl (fun _=>hg)
end
end Go.Proofs.YtkijckccfookeaaDoor
