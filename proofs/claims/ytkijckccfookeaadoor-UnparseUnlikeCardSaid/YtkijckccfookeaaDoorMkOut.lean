/- Lemmas. -/
import Derived.Test.YtkijckccfookeaaDoorX09
import Derived.Deep.Cut
set_option linter.unusedVariables false
set_option linter.unusedSimpArgs false
set_option maxRecDepth 100000
set_option maxHeartbeats 32000000
namespace Go.Proofs.YtkijckccfookeaaDoor
open Go.RowKit
attribute [-go_sem] Builtin.append_
abbrev kR:TypeId:=51
abbrev uH:TypeId:=146
abbrev FM:List TypeId:=[uH,aF]
structure afq (w:World)(m:Nat)(fs:Nat->Value)(lp:Int)(p:List Pt)(es:List Int)(A1:Option Addr)(c1:Nat)(A2:Option Addr)(c2:Nat)(wr:World):Prop where
 mkr:Mk wr m fs lp
 res:Bk wr w.heap.size kR #[.slice none 0 0,.slice none 0 0]
 var:Bk wr (w.heap.size+1) kR #[.slice A1 p.length c1,.slice A2 es.length c2]
 pts:wr.ownsRow w.heap.size uH 3 (.slice A1 p.length c1) p.length (wH p)
 ends:wr.ownsRow w.heap.size aF 1 (.slice A2 es.length c2) es.length (aN es)
 mv:Mv m w wr
section
variable {w:World} {m:Nat} {fs:Nat->Value} {lp:Int} {p:List Pt} {es:List Int} {A1 A2:Option Addr} {c1 c2:Nat} {wr:World}
theorem afq.next (h:afq w m fs lp p es A1 c1 A2 c2 wr){w2:World}(hm:Mk w2 m fs lp)(hv:Mv m wr w2):afq w m fs lp p es A1 c1 A2 c2 w2:=by have hs:=Sp.next h.mkr hv;exact⟨hm,hs.bk h.res (by decide),hs.bk h.var (by decide),hs.own h.pts (by decide),hs.own h.ends (by decide),eu h.mv hv⟩
theorem afq.drew (h:afq w m fs lp p es A1 c1 A2 c2 wr):afq w m fs lp p es A1 c1 A2 c2 wr.drew:=⟨h.mkr,h.res,h.var,h.pts,h.ends,⟨h.mv.os,h.mv.tape,h.mv.output,h.mv.size,h.mv.block⟩⟩
theorem afq.ags (h:afq w m fs lp p es A1 c1 A2 c2 wr)(hmw:m<w.heap.size){w2:World}{A:Option Addr}{c n:Nat}{x:Pt}(hn:n=p.length+1)(hg:wr.grownBy w2 (Value.slice A1 p.length c1).ownBlock)(ho:w2.ownsRow w.heap.size uH 3 (.slice A n c) n (wH p++Ye x)):
  afq w m fs lp (p++[x]) es A c A2 c2 (w2.setCell ⟨w.heap.size+1,0,none⟩ (.slice A n c)):=by
 subst hn;have hs:Sp m uH wr w2:=Sp.push h.pts (by omega) hg;have hvar:=hs.bk h.var (by decide);have hv2:=jl h.mv h.pts (ai _) hg;have hs2:Sp m kR w2 (w2.setCell ⟨w.heap.size+1,0,none⟩ (.slice A (p.length+1) c)):=Sp.set hvar (by omega) 0 _;have hl:(p++[x]).length=p.length+1:=by simp
 refine⟨hs2.mk (hs.mk h.mkr (by decide)) (by decide),(hs.bk h.res (by decide)).far (by simp) _,?_,?_,hs2.own (hs.own h.ends (by decide)) (by decide),qC hv2 (by omega) _ _⟩
 ·have:=hvar.set 0 (.slice A (p.length+1) c);rw[hl];exact this
 have:=hs2.own ho (by decide);rw[hl,Rq];simpa [wH] using this
theorem afq.point (h:afq w m fs lp p es A1 c1 A2 c2 wr)(hmw:m<w.heap.size){n:Nat}(hn:p.length=n)(hl:n<=1000)(v1 v2:Int)(b:Bool):
  ∃A5 c5 w9,(Builtin.append_ #[49,49] 49 #[.slice A1 n c1,.slice (some ⟨wr.heap.size,0,none⟩) 1 1]).run Tryd.prog (wr.alloc (.cells #[.int .i64 v1,.int .i64 v2,.bool b] uH))= .ok (.slice A5 (n+1) c5) w9/\
   w9.cell? ⟨w.heap.size+1,0,none⟩=some (.slice A1 n c1)/\w9.frozen? ⟨w.heap.size+1,0,none⟩=false/\afq w m fs lp (p++[⟨v1,v2,b⟩]) es A5 c5 A2 c2 (w9.setCell ⟨w.heap.size+1,0,none⟩ (.slice A5 (n+1) c5)):=by
 subst hn;obtain⟨A5,c5,w9,hrun,dG,dA,rE⟩:=bQ aaM 49 wr w.heap.size _ c1 A1 _ #[.int .i64 v1,.int .i64 v2,.bool b] rfl h.pts (by simp[Value.oneCell']) (by omega) h.mv.size;have Df:=(Sp.push h.pts (show m<=w.heap.size by omega) dA).bk h.var (by decide);exact⟨A5,c5,w9,hrun,Df.cell 0,Df.frozen 0,h.ags hmw rfl dA dG⟩
theorem afq.agj (h:afq w m fs lp p es A1 c1 A2 c2 wr)(hmw:m<w.heap.size){w2:World}{A:Option Addr}{c n:Nat}{x:Int}(hn:n=es.length+1)(hg:wr.grownBy w2 (Value.slice A2 es.length c2).ownBlock)(ho:w2.ownsRow w.heap.size aF 1 (.slice A n c) n (aN es++[.int .i64 x])):
  afq w m fs lp p (es++[x]) A1 c1 A c (w2.setCell ⟨w.heap.size+1,1,none⟩ (.slice A n c)):=by
 subst hn;have hs:Sp m aF wr w2:=Sp.push h.ends (by omega) hg;have hvar:=hs.bk h.var (by decide);have hv2:=jl h.mv h.ends (ai _) hg;have hs2:Sp m kR w2 (w2.setCell ⟨w.heap.size+1,1,none⟩ (.slice A (es.length+1) c)):=Sp.set hvar (by omega) 1 _;have hl:(es++[x]).length=es.length+1:=by simp
 refine⟨hs2.mk (hs.mk h.mkr (by decide)) (by decide),(hs.bk h.res (by decide)).far (by simp) _,?_,hs2.own (hs.own h.pts (by decide)) (by decide),?_,qC hv2 (by omega) _ _⟩
 ·have:=hvar.set 1 (.slice A (es.length+1) c);rw[hl];exact this
 have:=hs2.own ho (by decide);rw[hl];simpa [aN,cI] using this
theorem afq.fin (h:afq w m fs lp p es A1 c1 A2 c2 wr)(hmw:m<w.heap.size)(hp:∀x∈p,N9 x.x/\N9 x.y)(he:∀e∈es,I64 e):
  Bk ((wr.setCell ⟨w.heap.size,0,none⟩ (.slice A1 p.length c1)).setCell ⟨w.heap.size,1,none⟩ (.slice A2 es.length c2)) w.heap.size kR #[.slice A1 p.length c1,.slice A2 es.length c2]/\
   Sl PtR 3 ((wr.setCell ⟨w.heap.size,0,none⟩ (.slice A1 p.length c1)).setCell ⟨w.heap.size,1,none⟩ (.slice A2 es.length c2)) (TS FM w.heap.size ((wr.setCell ⟨w.heap.size,0,none⟩ (.slice A1 p.length c1)).setCell ⟨w.heap.size,1,none⟩ (.slice A2 es.length c2))) A1 p/\
   Sl aeQ 1 ((wr.setCell ⟨w.heap.size,0,none⟩ (.slice A1 p.length c1)).setCell ⟨w.heap.size,1,none⟩ (.slice A2 es.length c2)) (TS FM w.heap.size ((wr.setCell ⟨w.heap.size,0,none⟩ (.slice A1 p.length c1)).setCell ⟨w.heap.size,1,none⟩ (.slice A2 es.length c2))) A2 es/\
   Mk ((wr.setCell ⟨w.heap.size,0,none⟩ (.slice A1 p.length c1)).setCell ⟨w.heap.size,1,none⟩ (.slice A2 es.length c2)) m fs lp/\Mv m w ((wr.setCell ⟨w.heap.size,0,none⟩ (.slice A1 p.length c1)).setCell ⟨w.heap.size,1,none⟩ (.slice A2 es.length c2)):=by
 have k1:=h.res.set 0 (.slice A1 p.length c1);have k2:=k1.set 1 (.slice A2 es.length c2);have s1:Sp m kR wr (wr.setCell ⟨w.heap.size,0,none⟩ (.slice A1 p.length c1)):=Sp.set h.res (by omega) 0 _;have s2:Sp m kR _ ((wr.setCell ⟨w.heap.size,0,none⟩ (.slice A1 p.length c1)).setCell ⟨w.heap.size,1,none⟩ (.slice A2 es.length c2)):=Sp.set k1 (by omega) 1 _;exact⟨k2,cZ (s2.own (s1.own h.pts (by decide)) (by decide)) (WM _ _ p (fun x hx=>by have:=hp x hx;unfold N9 at this;unfold I64;omega)) (by decide) (ai _) (by omega),
  cZ (s2.own (s1.own h.ends (by decide)) (by decide)) (iF _ _ es he) (by decide) (ai _) (by omega),
  s2.mk (s1.mk h.mkr (by decide)) (by decide),qC (qC h.mv (ai _) _ _) (ai _) _ _⟩
end
theorem afy.agu {k:Nat}{p:List Pt}{es:List Int}(h:afy k p es)(hk:k<=1000):∀e∈es,I64 e:=by
 have key:∀(es:List Int) fr n,n<=100000->gU fr es n->∀e∈es,I64 e:=by
  intro es;induction es with
  |nil=>intro fr n _ _ e he;simp at he
  |cons x xs ih=>
   intro fr n hl hok e he;obtain⟨a,b,c⟩:=hok;rw[agQ] at he;rcases he with rfl|he
   ·unfold I64;omega
   exact ih _ _ hl c e he
 exact key es 0 _ (by have:=h.few;omega) h.ends
theorem kH {fn:Func}{p:Tmp}{ty:TypeId}(h:fn.results= #[.cell p ty])(tmps:Array Value)(P:Program)(w:World):
  (results fn tmps).run P w=((asAddr (tmps.getD p undef)).run P w).andThen fun a w₁=>((loadVar ty a).run P w₁):=by
 simp only[results,h];simp[Sem.run_bind,Result.andThen]
theorem Vu:(Tryd.prog.info? kR).map (·.size)=some 2:=by kernel_rfl
theorem Jo {W:World}{g:Nat}{a b:Value}{tmps:Array Value}(hb:Bk W g kR #[a,b])(h2:tmps.getD 2 undef= .pointer (some ⟨g,0,none⟩)):(results Tryd.f63 tmps).run Tryd.prog W= .ok (.agg #[a,b]) W:=by rw[kH (fn:=Tryd.f63) (p:=2) (ty:=kR) rfl,h2];have:=run_loadVar_row (P:=Tryd.prog) W g kR kR #[a,b] (0,0) _ hb Tryd.underlying51 rfl (by rw[Vu];rfl);simp[asAddr,Result.andThen,this]
def U7 (w:World)(m:Nat)(fs:Nat->Value)(lp:Int)(e:Ending)(w':World):Prop:=∃(k:Nat) (p:List Pt) (es:List Int) (A1:Option Addr) (c1:Nat) (A2:Option Addr) (c2:Nat),afy k p es/\k<=2/\e= .returned (.agg #[.slice A1 p.length c1,.slice A2 es.length c2])/\Sl PtR 3 w' (TS FM w.heap.size w') A1 p/\Sl aeQ 1 w' (TS FM w.heap.size w') A2 es/\Mk w' m fs lp/\Mv m w w'
theorem wrap_in (z:Int)(h1: -1000000<=z)(h2:z<=1000000):IntKind.i64.wrap z=z:=by simp[IntKind.wrap,IntKind.signed,IntKind.bits];omega
theorem DR (x:Nat)(h:x<21):N9 (IntKind.i64.wrap (IntKind.i64.wrap ((x:Int)*50) - 100))/\N9 (IntKind.i64.wrap (IntKind.i64.wrap ((x:Int)*50) - 200)):=by rw[wrap_in ((x:Int)*50) (by omega) (by omega),wrap_in ((x:Int)*50 - 100) (by omega) (by omega),wrap_in ((x:Int)*50 - 200) (by omega) (by omega)];unfold N9;omega
theorem Ua {q:List Pt}{j:Nat}(h:q.length=j/\∀x∈q,N9 x.x/\N9 x.y){x1 x2:Nat}(h1:x1<21)(h2:x2<21){b:Bool}:Hid ((q++[(⟨IntKind.i64.wrap (IntKind.i64.wrap ((x1:Int)*50) - 100),IntKind.i64.wrap (IntKind.i64.wrap ((x2:Int)*50) - 200),b⟩:Pt)]).length=j+1/\∀x∈q++[(⟨IntKind.i64.wrap (IntKind.i64.wrap ((x1:Int)*50) - 100),IntKind.i64.wrap (IntKind.i64.wrap ((x2:Int)*50) - 200),b⟩:Pt)],N9 x.x/\N9 x.y):=hd0 ⟨by simp[h.1],fun x hx=>by
 rw[agJ,agF] at hx;rcases hx with hx|rfl
 ·exact h.2 x hx
 exact⟨(DR x1 h1).1,(DR x2 h2).2⟩⟩
theorem Ny (w:World)(m:Nat)(fs:Nat->Value)(lp:Int)(h:Mk w m fs lp):Calls Tryd.prog 63 #[.pointer (some ⟨m,0,none⟩)] w (U7 w m fs lp):=by
 have hmw:=h.lt;have H:=hd0 h;clear h;go_enter Tryd.func63,Tryd.ntmps63
 go_wp2_with fail
 obtain⟨W0,hW0⟩:∃W0,(w.alloc (.cells #[.slice none 0 0,.slice none 0 0] kR)).alloc (.cells #[.slice none 0 0,.slice none 0 0] kR)=W0:=⟨_,rfl⟩
 rw[hW0];have hI:afq w m fs lp [] [] none 0 none 0 W0:=by rw[<-hW0];have b1:Below w.heap.size w ((w.alloc (.cells #[.slice none 0 0,.slice none 0 0] kR)).alloc (.cells #[.slice none 0 0,.slice none 0 0] kR)):=((agE _ _).alloc (ai _) _).alloc (by simp) _;refine⟨H.out.below b1,(Bk.new w _ _).alloc _,?_,World.ownsRow_nil _ _ _ _,World.ownsRow_nil _ _ _ _,iW (yA m w) b1⟩;have:=Bk.new (w.alloc (.cells #[.slice none 0 0,.slice none 0 0] kR)) kR #[.slice none 0 0,.slice none 0 0];simpa using this
 have HI:=hd0 hI;clear hW0 hI;refine(ay W0 m fs lp 3 HI.out.mkr (by omega) (by omega)).mono ?_;rintro e w1 ⟨x,hx,rfl,hm1,hv1⟩;have HI1:=hd0 (HI.out.next hm1 hv1);clear hm1 hv1 HI;go_wp2_with fail
 go_loopw [5] (fun i wr=>∃(k:Nat) (p:List Pt) (es:List Int) (A1:Option Addr) (c1:Nat) (A2:Option Addr) (c2:Nat),k<=x/\i= .int .i64 k/\Hid (afy k p es)/\afq w m fs lp p es A1 c1 A2 c2 wr) (fun i _=>x - (intOf i).toNat)
 case atStart=>exact⟨0,[],[],none,0,none,0,nz _,rfl,hd0 afy.nil,HI1.out⟩
 case round=>
  obtain⟨wa,rfl⟩:∃x,x=wr:=⟨_,rfl⟩
  obtain⟨k,p,es,A1,c1,A2,c2,hk,rfl,hok,hI⟩:=hrel;have HI:=hd0 hI;clear hI;by_cases hlt:k<x
  ·go_wp2_with fail
   refine(ay wa m fs lp 4 HI.out.mkr (by omega) (by omega)).mono ?_;rintro e w2 ⟨y,hy,rfl,hm2,hv2⟩;have HI2:=hd0 (HI.out.next hm2 hv2);clear hm2 hv2 HI;go_wp2_with fail
   go_loopw [7] (fun i wr=>∃(j:Nat) (q:List Pt) (A:Option Addr) (c:Nat),j<=2+y/\i= .int .i64 j/\Hid (q.length=j/\∀x∈q,N9 x.x/\N9 x.y)/\afq w m fs lp (p++q) es A c A2 c2 wr) (fun i _=>2+y - (intOf i).toNat)
   case atStart=>exact⟨0,[],A1,c1,nz _,rfl,hd0 (by simp),by simpa using HI2.out⟩
   case round=>
    obtain⟨wb,rfl⟩:∃x,x=wr:=⟨_,rfl⟩
    obtain⟨j,q,A,c,hj,rfl,hq,hI⟩:=hrel;have HJ:=hd0 hI;have q0:wb.cell? ⟨w.heap.size+1,0,none⟩=some (.slice A (p.length+q.length) c):=by rw[<-la];exact hI.var.cell 0
    have zo:=hI.var.lt;clear hI;have gZ:w.heap.size+1≠m:=by omega
    have hpl:p.length+q.length<=100:=by have:=hok.out.few;have:=hq.out.1;omega
    by_cases hlt2:j<2+y
    ·by_cases hj0:j=0
     ·have ej:(j:Int)=0:=by omega
      rw[ej];clear ej;go_wp2_with fail
      have bH:True:=trivial;have dY:True:=trivial
      first|(go_region_with (first
       |(go_at_call 36;have _t:=bH;refine(ay _ m fs lp 21 (by exact HJ.out.mkr) (by omega) (by omega)).mono ?_;rintro e w3 ⟨x1,hx1,rfl,aX,hv3⟩;have q3:=dh hv3 gZ q0;clear _t bH)
       |(go_at_call 36;have _t:=dY;refine(ay _ m fs lp 21 (by exact aX) (by omega) (by omega)).mono ?_;rintro e w4 ⟨x2,hx2,rfl,hm4,hv4⟩;have q4:=dh hv4 gZ q3;have HI4:=(HJ.out.drew.next aX hv3).next hm4 hv4;have y4:w4.frozen? ⟨w.heap.size+1,0,none⟩=false:=HI4.var.frozen 0;have z4:w.heap.size+1<w4.heap.size:=HI4.var.lt;obtain⟨A5,c5,w9,hrun,x9,y9,PH⟩:=HI4.point hmw (n:=p.length+q.length) (by rw[la]) (by omega) (IntKind.i64.wrap (IntKind.i64.wrap ((x1:Int)*50) - 100)) (IntKind.i64.wrap (IntKind.i64.wrap ((x2:Int)*50) - 200)) true;have Ql:=hd0 PH;clear _t dY HI4 PH)))|fail
      all_goals
       go_wp2_with fail
       go_roundw
       case rel=>exact⟨j+1,q++[⟨IntKind.i64.wrap (IntKind.i64.wrap ((x1:Int)*50) - 100),IntKind.i64.wrap (IntKind.i64.wrap ((x2:Int)*50) - 200),true⟩],A5,c5,by omega,by simp[hj0],Ua hq.out hx1 hx2,by have h:=Ql.out;rwa [agR] at h⟩
       case measure=>first|(simp[intOf];done)|(simp[intOf];omega)
     have ej:((j:Int)==0)=false:=by simp;omega
     go_wp2_with fail
     have bH:True:=trivial;have dY:True:=trivial;have jo:True:=trivial
     first|(go_region_with (first
      |(go_at_call 36;have _t:=bH;refine(ay _ m fs lp 21 (by exact HJ.out.mkr) (by omega) (by omega)).mono ?_;rintro e w3 ⟨x1,hx1,rfl,aX,hv3⟩;have q3:=dh hv3 gZ q0;clear _t bH)
      |(go_at_call 36;have _t:=dY;refine(ay _ m fs lp 21 (by exact aX) (by omega) (by omega)).mono ?_;rintro e w4 ⟨x2,hx2,rfl,hm4,hv4⟩;have q4:=dh hv4 gZ q3;clear _t dY)
      |(go_at_call 36;have _t:=jo;refine(ay _ m fs lp 4 (by exact hm4) (by omega) (by omega)).mono ?_;rintro e w5 ⟨x3,hx3,rfl,Ik,hv5⟩;have q5:=dh hv5 gZ q4;have TM:=((HJ.out.drew.next aX hv3).next hm4 hv4).next Ik hv5;have y5:w5.frozen? ⟨w.heap.size+1,0,none⟩=false:=TM.var.frozen 0;have z5:w.heap.size+1<w5.heap.size:=TM.var.lt;obtain⟨A5,c5,w9,hrun,x9,y9,PH⟩:=TM.point hmw (n:=p.length+q.length) (by rw[la]) (by omega) (IntKind.i64.wrap (IntKind.i64.wrap ((x1:Int)*50) - 100)) (IntKind.i64.wrap (IntKind.i64.wrap ((x2:Int)*50) - 200)) (decide (0<x3));have Ql:=hd0 PH;clear _t jo TM PH)))|fail
     all_goals
      go_wp2_with fail
      go_roundw
      case rel=>exact⟨j+1,q++[⟨IntKind.i64.wrap (IntKind.i64.wrap ((x1:Int)*50) - 100),IntKind.i64.wrap (IntKind.i64.wrap ((x2:Int)*50) - 200),decide (0<x3)⟩],A5,c5,by omega,by simp,Ua hq.out hx1 hx2,by have h:=Ql.out;rwa [agR] at h⟩
      case measure=>first|(simp[intOf];done)|(simp[intOf];omega)
    obtain rfl:j=2+y:=by omega
    have BQ:Hid (afy (k+1) (p++q) (es++[((p.length+q.length:Nat):Int) - 1])):=hd0 (hok.out.snoc hq.out.2 (by have:=hq.out.1;omega) (by have:=hq.out.1;omega) rfl);have hel:es.length=k:=hok.out.few.2;have hk9:es.length<=10:=by omega
    have q1:wb.cell? ⟨w.heap.size+1,1,none⟩=some (.slice A2 es.length c2):=HJ.out.var.cell 1;have y1:wb.frozen? ⟨w.heap.size+1,1,none⟩=false:=HJ.out.var.frozen 1;clear hel;go_wp2_with (at_builtin;refine wR ku rfl (.tmp 45) (.tmp 50) rfl wb wb.heap.size rfl w.heap.size es.length c2 A2 (aN es) #[.int .i64 ((p.length:Int)+q.length - 1)] rfl rfl rfl HJ.out.ends (by simp[Value.oneCell']) (by omega) HJ.out.mv.size ?_;intro A5 c5 w9 h9 g9 l9;have Ql:=hd0 (HJ.out.agj hmw rfl g9 h9);have Df:=(Sp.push HJ.out.ends (show m<=w.heap.size by omega) g9).bk HJ.out.var (by decide);have x9:w9.cell? ⟨w.heap.size+1,1,none⟩=some (.slice A2 es.length c2):=Df.cell 1;have y9:w9.frozen? ⟨w.heap.size+1,1,none⟩=false:=Df.frozen 1;clear h9 g9 l9 Df)
    go_roundw
    case rel=>exact⟨k+1,p++q,es++[((p.length+q.length:Nat):Int) - 1],A,c,A5,c5,by omega,by simp,BQ,by have h:=Ql.out;simpa using h⟩
    case measure=>simp[intOf];omega
  have HF:=hd0 HI.out.fin;have HE:=hd0 (hok.out.agu (by omega));have v0:wa.cell? ⟨w.heap.size+1,0,none⟩=some (.slice A1 p.length c1):=HI.out.var.cell 0;have v1:wa.cell? ⟨w.heap.size+1,1,none⟩=some (.slice A2 es.length c2):=HI.out.var.cell 1;have r0:wa.cell? ⟨w.heap.size,0,none⟩=some (.slice none 0 0):=HI.out.res.cell 0;have r1:wa.cell? ⟨w.heap.size,1,none⟩=some (.slice none 0 0):=HI.out.res.cell 1;have f0:wa.frozen? ⟨w.heap.size,0,none⟩=false:=HI.out.res.frozen 0;have f1:wa.frozen? ⟨w.heap.size,1,none⟩=false:=HI.out.res.frozen 1;go_wp2_with fail
  obtain⟨g1,g2,g3,g4,g5⟩:=HF.out hmw (fun x hx=>hok.out.pts x hx) HE.out;exact bodyPost_ret (Jo g1 rfl) rfl ⟨k,p,es,A1,c1,A2,c2,hok.out,by omega,rfl,g2,g3,g4,g5⟩
end Go.Proofs.YtkijckccfookeaaDoor
