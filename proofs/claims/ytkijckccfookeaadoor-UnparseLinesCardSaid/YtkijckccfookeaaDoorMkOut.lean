/- Lemmas. -/
import Derived.Test.YtkijckccfookeaaDoorW09
import Derived.Deep.Cut
set_option linter.unusedVariables false
set_option linter.unusedSimpArgs false
set_option maxRecDepth 100000
set_option maxHeartbeats 32000000
namespace Go.Proofs.YtkijckccfookeaaDoor
open Go.RowKit
attribute [-go_sem] Builtin.append_
abbrev gJ:TypeId:=51
abbrev mQ:TypeId:=146
abbrev xO:List TypeId:=[mQ,ax]
structure aaf (w:World)(m:Nat)(fs:Nat->Value)(lp:Int)(p:List Pt)(es:List Int)(A1:Option Addr)(c1:Nat)(A2:Option Addr)(c2:Nat)(wr:World):Prop where
 Zv:Mk wr m fs lp
 res:Bk wr w.heap.size gJ #[.slice none 0 0,.slice none 0 0]
 var:Bk wr (w.heap.size+1) gJ #[.slice A1 p.length c1,.slice A2 es.length c2]
 pts:wr.ownsRow w.heap.size mQ 3 (.slice A1 p.length c1) p.length (pV p)
 ends:wr.ownsRow w.heap.size ax 1 (.slice A2 es.length c2) es.length (aI es)
 mv:Mv m w wr
section
variable {w:World} {m:Nat} {fs:Nat->Value} {lp:Int} {p:List Pt} {es:List Int} {A1 A2:Option Addr} {c1 c2:Nat} {wr:World}
theorem aaf.next (h:aaf w m fs lp p es A1 c1 A2 c2 wr){w2:World}(hm:Mk w2 m fs lp)(hv:Mv m wr w2):aaf w m fs lp p es A1 c1 A2 c2 w2:=by have hs:=Sp.next h.Zv hv;exact⟨hm,hs.bk h.res (by decide),hs.bk h.var (by decide),hs.own h.pts (by decide),hs.own h.ends (by decide),cO h.mv hv⟩
theorem aaf.drew (h:aaf w m fs lp p es A1 c1 A2 c2 wr):aaf w m fs lp p es A1 c1 A2 c2 wr.drew:=⟨h.Zv,h.res,h.var,h.pts,h.ends,⟨h.mv.os,h.mv.tape,h.mv.output,h.mv.size,h.mv.block⟩⟩
theorem aaf.aaO (h:aaf w m fs lp p es A1 c1 A2 c2 wr)(hmw:m<w.heap.size){w2:World}{A:Option Addr}{c n:Nat}{x:Pt}(hn:n=p.length+1)(hg:wr.grownBy w2 (Value.slice A1 p.length c1).ownBlock)(ho:w2.ownsRow w.heap.size mQ 3 (.slice A n c) n (pV p++MF x)):
  aaf w m fs lp (p++[x]) es A c A2 c2 (w2.setCell ⟨w.heap.size+1,0,none⟩ (.slice A n c)):=by
 subst hn;have hs:Sp m mQ wr w2:=Sp.push h.pts (by omega) hg;have hvar:=hs.bk h.var (by decide);have hv2:=eX h.mv h.pts (ag _) hg;have hs2:Sp m gJ w2 (w2.setCell ⟨w.heap.size+1,0,none⟩ (.slice A (p.length+1) c)):=Sp.set hvar (by omega) 0 _;have hl:(p++[x]).length=p.length+1:=by simp
 refine⟨hs2.mk (hs.mk h.Zv (by decide)) (by decide),(hs.bk h.res (by decide)).far (by simp) _,?_,?_,hs2.own (hs.own h.ends (by decide)) (by decide),kG hv2 (by omega) _ _⟩
 ·have:=hvar.set 0 (.slice A (p.length+1) c);rw[hl];exact this
 have:=hs2.own ho (by decide);rw[hl,IV];simpa [pV] using this
theorem aaf.point (h:aaf w m fs lp p es A1 c1 A2 c2 wr)(hmw:m<w.heap.size){n:Nat}(hn:p.length=n)(hl:n<=1000)(v1 v2:Int)(b:Bool):
  ∃A5 c5 w9,(Builtin.append_ #[49,49] 49 #[.slice A1 n c1,.slice (some ⟨wr.heap.size,0,none⟩) 1 1]).run Tryd.prog (wr.alloc (.cells #[.int .i64 v1,.int .i64 v2,.bool b] mQ))= .ok (.slice A5 (n+1) c5) w9/\
   w9.cell? ⟨w.heap.size+1,0,none⟩=some (.slice A1 n c1)/\w9.frozen? ⟨w.heap.size+1,0,none⟩=false/\aaf w m fs lp (p++[⟨v1,v2,b⟩]) es A5 c5 A2 c2 (w9.setCell ⟨w.heap.size+1,0,none⟩ (.slice A5 (n+1) c5)):=by
 subst hn;obtain⟨A5,c5,w9,hrun,bG,bD,nH⟩:=di UW 49 wr w.heap.size _ c1 A1 _ #[.int .i64 v1,.int .i64 v2,.bool b] rfl h.pts (by simp[Value.oneCell']) (by omega) h.mv.size;have vF:=(Sp.push h.pts (show m<=w.heap.size by omega) bD).bk h.var (by decide);exact⟨A5,c5,w9,hrun,vF.cell 0,vF.frozen 0,h.aaO hmw rfl bD bG⟩
theorem aaf.aaK (h:aaf w m fs lp p es A1 c1 A2 c2 wr)(hmw:m<w.heap.size){w2:World}{A:Option Addr}{c n:Nat}{x:Int}(hn:n=es.length+1)(hg:wr.grownBy w2 (Value.slice A2 es.length c2).ownBlock)(ho:w2.ownsRow w.heap.size ax 1 (.slice A n c) n (aI es++[.int .i64 x])):
  aaf w m fs lp p (es++[x]) A1 c1 A c (w2.setCell ⟨w.heap.size+1,1,none⟩ (.slice A n c)):=by
 subst hn;have hs:Sp m ax wr w2:=Sp.push h.ends (by omega) hg;have hvar:=hs.bk h.var (by decide);have hv2:=eX h.mv h.ends (ag _) hg;have hs2:Sp m gJ w2 (w2.setCell ⟨w.heap.size+1,1,none⟩ (.slice A (es.length+1) c)):=Sp.set hvar (by omega) 1 _;have hl:(es++[x]).length=es.length+1:=by simp
 refine⟨hs2.mk (hs.mk h.Zv (by decide)) (by decide),(hs.bk h.res (by decide)).far (by simp) _,?_,hs2.own (hs.own h.pts (by decide)) (by decide),?_,kG hv2 (by omega) _ _⟩
 ·have:=hvar.set 1 (.slice A (es.length+1) c);rw[hl];exact this
 have:=hs2.own ho (by decide);rw[hl];simpa [aI,cI] using this
theorem aaf.fin (h:aaf w m fs lp p es A1 c1 A2 c2 wr)(hmw:m<w.heap.size)(hp:∀x∈p,N9 x.x/\N9 x.y)(he:∀e∈es,I64 e):
  Bk ((wr.setCell ⟨w.heap.size,0,none⟩ (.slice A1 p.length c1)).setCell ⟨w.heap.size,1,none⟩ (.slice A2 es.length c2)) w.heap.size gJ #[.slice A1 p.length c1,.slice A2 es.length c2]/\
   Sl PtR 3 ((wr.setCell ⟨w.heap.size,0,none⟩ (.slice A1 p.length c1)).setCell ⟨w.heap.size,1,none⟩ (.slice A2 es.length c2)) (TS xO w.heap.size ((wr.setCell ⟨w.heap.size,0,none⟩ (.slice A1 p.length c1)).setCell ⟨w.heap.size,1,none⟩ (.slice A2 es.length c2))) A1 p/\
   Sl Zx 1 ((wr.setCell ⟨w.heap.size,0,none⟩ (.slice A1 p.length c1)).setCell ⟨w.heap.size,1,none⟩ (.slice A2 es.length c2)) (TS xO w.heap.size ((wr.setCell ⟨w.heap.size,0,none⟩ (.slice A1 p.length c1)).setCell ⟨w.heap.size,1,none⟩ (.slice A2 es.length c2))) A2 es/\
   Mk ((wr.setCell ⟨w.heap.size,0,none⟩ (.slice A1 p.length c1)).setCell ⟨w.heap.size,1,none⟩ (.slice A2 es.length c2)) m fs lp/\Mv m w ((wr.setCell ⟨w.heap.size,0,none⟩ (.slice A1 p.length c1)).setCell ⟨w.heap.size,1,none⟩ (.slice A2 es.length c2)):=by
 have k1:=h.res.set 0 (.slice A1 p.length c1);have k2:=k1.set 1 (.slice A2 es.length c2);have s1:Sp m gJ wr (wr.setCell ⟨w.heap.size,0,none⟩ (.slice A1 p.length c1)):=Sp.set h.res (by omega) 0 _;have s2:Sp m gJ _ ((wr.setCell ⟨w.heap.size,0,none⟩ (.slice A1 p.length c1)).setCell ⟨w.heap.size,1,none⟩ (.slice A2 es.length c2)):=Sp.set k1 (by omega) 1 _;exact⟨k2,aY (s2.own (s1.own h.pts (by decide)) (by decide)) (PT _ _ p (fun x hx=>by have:=hp x hx;unfold N9 at this;unfold I64;omega)) (by decide) (ag _) (by omega),
  aY (s2.own (s1.own h.ends (by decide)) (by decide)) (dU _ _ es he) (by decide) (ag _) (by omega),
  s2.mk (s1.mk h.Zv (by decide)) (by decide),kG (kG h.mv (ag _) _ _) (ag _) _ _⟩
end
theorem aan.aaP {k:Nat}{p:List Pt}{es:List Int}(h:aan k p es)(hk:k<=1000):∀e∈es,I64 e:=by
 have key:∀(es:List Int) fr n,n<=100000->iP fr es n->∀e∈es,I64 e:=by
  intro es;induction es with
  |nil=>intro fr n _ _ e he;simp at he
  |cons x xs ih=>
   intro fr n hl hok e he;obtain⟨a,b,c⟩:=hok;rw[abd] at he;rcases he with rfl|he
   ·unfold I64;omega
   exact ih _ _ hl c e he
 exact key es 0 _ (by have:=h.few;omega) h.ends
theorem iY {fn:Func}{p:Tmp}{ty:TypeId}(h:fn.results= #[.cell p ty])(tmps:Array Value)(P:Program)(w:World):
  (results fn tmps).run P w=((asAddr (tmps.getD p undef)).run P w).andThen fun a w₁=>((loadVar ty a).run P w₁):=by
 simp only[results,h];simp[Sem.run_bind,Result.andThen]
theorem Kq:(Tryd.prog.info? gJ).map (·.size)=some 2:=by kernel_rfl
theorem zV {W:World}{g:Nat}{a b:Value}{tmps:Array Value}(hb:Bk W g gJ #[a,b])(h2:tmps.getD 2 undef= .pointer (some ⟨g,0,none⟩)):(results Tryd.f63 tmps).run Tryd.prog W= .ok (.agg #[a,b]) W:=by rw[iY (fn:=Tryd.f63) (p:=2) (ty:=gJ) rfl,h2];have:=run_loadVar_row (P:=Tryd.prog) W g gJ gJ #[a,b] (0,0) _ hb Tryd.underlying51 rfl (by rw[Kq];rfl);simp[asAddr,Result.andThen,this]
def Ls (w:World)(m:Nat)(fs:Nat->Value)(lp:Int)(e:Ending)(w':World):Prop:=∃(k:Nat) (p:List Pt) (es:List Int) (A1:Option Addr) (c1:Nat) (A2:Option Addr) (c2:Nat),aan k p es/\k<=2/\e= .returned (.agg #[.slice A1 p.length c1,.slice A2 es.length c2])/\Sl PtR 3 w' (TS xO w.heap.size w') A1 p/\Sl Zx 1 w' (TS xO w.heap.size w') A2 es/\Mk w' m fs lp/\Mv m w w'
theorem wrap_in (z:Int)(h1: -1000000<=z)(h2:z<=1000000):IntKind.i64.wrap z=z:=by simp[IntKind.wrap,IntKind.signed,IntKind.bits];omega
theorem vI (x:Nat)(h:x<21):N9 (IntKind.i64.wrap (IntKind.i64.wrap ((x:Int)*50) - 100))/\N9 (IntKind.i64.wrap (IntKind.i64.wrap ((x:Int)*50) - 200)):=by rw[wrap_in ((x:Int)*50) (by omega) (by omega),wrap_in ((x:Int)*50 - 100) (by omega) (by omega),wrap_in ((x:Int)*50 - 200) (by omega) (by omega)];unfold N9;omega
theorem Jy {q:List Pt}{j:Nat}(h:q.length=j/\∀x∈q,N9 x.x/\N9 x.y){x1 x2:Nat}(h1:x1<21)(h2:x2<21){b:Bool}:Hid ((q++[(⟨IntKind.i64.wrap (IntKind.i64.wrap ((x1:Int)*50) - 100),IntKind.i64.wrap (IntKind.i64.wrap ((x2:Int)*50) - 200),b⟩:Pt)]).length=j+1/\∀x∈q++[(⟨IntKind.i64.wrap (IntKind.i64.wrap ((x1:Int)*50) - 100),IntKind.i64.wrap (IntKind.i64.wrap ((x2:Int)*50) - 200),b⟩:Pt)],N9 x.x/\N9 x.y):=hd0 ⟨by simp[h.1],fun x hx=>by
 rw[aa5,aa1] at hx;rcases hx with hx|rfl
 ·exact h.2 x hx
 exact⟨(vI x1 h1).1,(vI x2 h2).2⟩⟩
theorem CY (w:World)(m:Nat)(fs:Nat->Value)(lp:Int)(h:Mk w m fs lp):Calls Tryd.prog 63 #[.pointer (some ⟨m,0,none⟩)] w (Ls w m fs lp):=by
 have hmw:=h.lt;have H:=hd0 h;clear h;go_enter Tryd.func63,Tryd.ntmps63
 go_wp2_with fail
 obtain⟨W0,hW0⟩:∃W0,(w.alloc (.cells #[.slice none 0 0,.slice none 0 0] gJ)).alloc (.cells #[.slice none 0 0,.slice none 0 0] gJ)=W0:=⟨_,rfl⟩
 rw[hW0];have hI:aaf w m fs lp [] [] none 0 none 0 W0:=by rw[<-hW0];have b1:Below w.heap.size w ((w.alloc (.cells #[.slice none 0 0,.slice none 0 0] gJ)).alloc (.cells #[.slice none 0 0,.slice none 0 0] gJ)):=((aa0 _ _).alloc (ag _) _).alloc (by simp) _;refine⟨H.out.below b1,(Bk.new w _ _).alloc _,?_,World.ownsRow_nil _ _ _ _,World.ownsRow_nil _ _ _ _,dX (qL m w) b1⟩;have:=Bk.new (w.alloc (.cells #[.slice none 0 0,.slice none 0 0] gJ)) gJ #[.slice none 0 0,.slice none 0 0];simpa using this
 have HI:=hd0 hI;clear hW0 hI;refine(ak W0 m fs lp 3 HI.out.Zv (by omega) (by omega)).mono ?_;rintro e w1 ⟨x,hx,rfl,hm1,hv1⟩;have HI1:=hd0 (HI.out.next hm1 hv1);clear hm1 hv1 HI;go_wp2_with fail
 go_loopw [5] (fun i wr=>∃(k:Nat) (p:List Pt) (es:List Int) (A1:Option Addr) (c1:Nat) (A2:Option Addr) (c2:Nat),k<=x/\i= .int .i64 k/\Hid (aan k p es)/\aaf w m fs lp p es A1 c1 A2 c2 wr) (fun i _=>x - (intOf i).toNat)
 case atStart=>exact⟨0,[],[],none,0,none,0,nz _,rfl,hd0 aan.nil,HI1.out⟩
 case round=>
  obtain⟨wa,rfl⟩:∃x,x=wr:=⟨_,rfl⟩
  obtain⟨k,p,es,A1,c1,A2,c2,hk,rfl,hok,hI⟩:=hrel;have HI:=hd0 hI;clear hI;by_cases hlt:k<x
  ·go_wp2_with fail
   refine(ak wa m fs lp 4 HI.out.Zv (by omega) (by omega)).mono ?_;rintro e w2 ⟨y,hy,rfl,hm2,hv2⟩;have HI2:=hd0 (HI.out.next hm2 hv2);clear hm2 hv2 HI;go_wp2_with fail
   go_loopw [7] (fun i wr=>∃(j:Nat) (q:List Pt) (A:Option Addr) (c:Nat),j<=2+y/\i= .int .i64 j/\Hid (q.length=j/\∀x∈q,N9 x.x/\N9 x.y)/\aaf w m fs lp (p++q) es A c A2 c2 wr) (fun i _=>2+y - (intOf i).toNat)
   case atStart=>exact⟨0,[],A1,c1,nz _,rfl,hd0 (by simp),by simpa using HI2.out⟩
   case round=>
    obtain⟨wb,rfl⟩:∃x,x=wr:=⟨_,rfl⟩
    obtain⟨j,q,A,c,hj,rfl,hq,hI⟩:=hrel;have HJ:=hd0 hI;have q0:wb.cell? ⟨w.heap.size+1,0,none⟩=some (.slice A (p.length+q.length) c):=by rw[<-la];exact hI.var.cell 0
    have zo:=hI.var.lt;clear hI;have dM:w.heap.size+1≠m:=by omega
    have hpl:p.length+q.length<=100:=by have:=hok.out.few;have:=hq.out.1;omega
    by_cases hlt2:j<2+y
    ·by_cases hj0:j=0
     ·have ej:(j:Int)=0:=by omega
      rw[ej];clear ej;go_wp2_with fail
      have aO:True:=trivial;have bZ:True:=trivial
      first|(go_region_with (first
       |(go_at_call 36;have _t:=aO;refine(ak _ m fs lp 21 (by exact HJ.out.Zv) (by omega) (by omega)).mono ?_;rintro e w3 ⟨x1,hx1,rfl,aF,hv3⟩;have q3:=aZ hv3 dM q0;clear _t aO)
       |(go_at_call 36;have _t:=bZ;refine(ak _ m fs lp 21 (by exact aF) (by omega) (by omega)).mono ?_;rintro e w4 ⟨x2,hx2,rfl,hm4,hv4⟩;have q4:=aZ hv4 dM q3;have HI4:=(HJ.out.drew.next aF hv3).next hm4 hv4;have y4:w4.frozen? ⟨w.heap.size+1,0,none⟩=false:=HI4.var.frozen 0;have z4:w.heap.size+1<w4.heap.size:=HI4.var.lt;obtain⟨A5,c5,w9,hrun,x9,y9,EX⟩:=HI4.point hmw (n:=p.length+q.length) (by rw[la]) (by omega) (IntKind.i64.wrap (IntKind.i64.wrap ((x1:Int)*50) - 100)) (IntKind.i64.wrap (IntKind.i64.wrap ((x2:Int)*50) - 200)) true;have Fh:=hd0 EX;clear _t bZ HI4 EX)))|fail
      all_goals
       go_wp2_with fail
       go_roundw
       case rel=>exact⟨j+1,q++[⟨IntKind.i64.wrap (IntKind.i64.wrap ((x1:Int)*50) - 100),IntKind.i64.wrap (IntKind.i64.wrap ((x2:Int)*50) - 200),true⟩],A5,c5,by omega,by simp[hj0],Jy hq.out hx1 hx2,by have h:=Fh.out;rwa [abe] at h⟩
       case measure=>first|(simp[intOf];done)|(simp[intOf];omega)
     have ej:((j:Int)==0)=false:=by simp;omega
     go_wp2_with fail
     have aO:True:=trivial;have bZ:True:=trivial;have fB:True:=trivial
     first|(go_region_with (first
      |(go_at_call 36;have _t:=aO;refine(ak _ m fs lp 21 (by exact HJ.out.Zv) (by omega) (by omega)).mono ?_;rintro e w3 ⟨x1,hx1,rfl,aF,hv3⟩;have q3:=aZ hv3 dM q0;clear _t aO)
      |(go_at_call 36;have _t:=bZ;refine(ak _ m fs lp 21 (by exact aF) (by omega) (by omega)).mono ?_;rintro e w4 ⟨x2,hx2,rfl,hm4,hv4⟩;have q4:=aZ hv4 dM q3;clear _t bZ)
      |(go_at_call 36;have _t:=fB;refine(ak _ m fs lp 4 (by exact hm4) (by omega) (by omega)).mono ?_;rintro e w5 ⟨x3,hx3,rfl,yJ,hv5⟩;have q5:=aZ hv5 dM q4;have Jo:=((HJ.out.drew.next aF hv3).next hm4 hv4).next yJ hv5;have y5:w5.frozen? ⟨w.heap.size+1,0,none⟩=false:=Jo.var.frozen 0;have z5:w.heap.size+1<w5.heap.size:=Jo.var.lt;obtain⟨A5,c5,w9,hrun,x9,y9,EX⟩:=Jo.point hmw (n:=p.length+q.length) (by rw[la]) (by omega) (IntKind.i64.wrap (IntKind.i64.wrap ((x1:Int)*50) - 100)) (IntKind.i64.wrap (IntKind.i64.wrap ((x2:Int)*50) - 200)) (decide (0<x3));have Fh:=hd0 EX;clear _t fB Jo EX)))|fail
     all_goals
      go_wp2_with fail
      go_roundw
      case rel=>exact⟨j+1,q++[⟨IntKind.i64.wrap (IntKind.i64.wrap ((x1:Int)*50) - 100),IntKind.i64.wrap (IntKind.i64.wrap ((x2:Int)*50) - 200),decide (0<x3)⟩],A5,c5,by omega,by simp,Jy hq.out hx1 hx2,by have h:=Fh.out;rwa [abe] at h⟩
      case measure=>first|(simp[intOf];done)|(simp[intOf];omega)
    obtain rfl:j=2+y:=by omega
    have tK:Hid (aan (k+1) (p++q) (es++[((p.length+q.length:Nat):Int) - 1])):=hd0 (hok.out.snoc hq.out.2 (by have:=hq.out.1;omega) (by have:=hq.out.1;omega) rfl);have hel:es.length=k:=hok.out.few.2;have hk9:es.length<=10:=by omega
    have q1:wb.cell? ⟨w.heap.size+1,1,none⟩=some (.slice A2 es.length c2):=HJ.out.var.cell 1;have y1:wb.frozen? ⟨w.heap.size+1,1,none⟩=false:=HJ.out.var.frozen 1;clear hel;go_wp2_with (at_builtin;refine pq jC rfl (.tmp 45) (.tmp 50) rfl wb wb.heap.size rfl w.heap.size es.length c2 A2 (aI es) #[.int .i64 ((p.length:Int)+q.length - 1)] rfl rfl rfl HJ.out.ends (by simp[Value.oneCell']) (by omega) HJ.out.mv.size ?_;intro A5 c5 w9 h9 g9 l9;have Fh:=hd0 (HJ.out.aaK hmw rfl g9 h9);have vF:=(Sp.push HJ.out.ends (show m<=w.heap.size by omega) g9).bk HJ.out.var (by decide);have x9:w9.cell? ⟨w.heap.size+1,1,none⟩=some (.slice A2 es.length c2):=vF.cell 1;have y9:w9.frozen? ⟨w.heap.size+1,1,none⟩=false:=vF.frozen 1;clear h9 g9 l9 vF)
    go_roundw
    case rel=>exact⟨k+1,p++q,es++[((p.length+q.length:Nat):Int) - 1],A,c,A5,c5,by omega,by simp,tK,by have h:=Fh.out;simpa using h⟩
    case measure=>simp[intOf];omega
  have HF:=hd0 HI.out.fin;have HE:=hd0 (hok.out.aaP (by omega));have v0:wa.cell? ⟨w.heap.size+1,0,none⟩=some (.slice A1 p.length c1):=HI.out.var.cell 0;have v1:wa.cell? ⟨w.heap.size+1,1,none⟩=some (.slice A2 es.length c2):=HI.out.var.cell 1;have r0:wa.cell? ⟨w.heap.size,0,none⟩=some (.slice none 0 0):=HI.out.res.cell 0;have r1:wa.cell? ⟨w.heap.size,1,none⟩=some (.slice none 0 0):=HI.out.res.cell 1;have f0:wa.frozen? ⟨w.heap.size,0,none⟩=false:=HI.out.res.frozen 0;have f1:wa.frozen? ⟨w.heap.size,1,none⟩=false:=HI.out.res.frozen 1;go_wp2_with fail
  obtain⟨g1,g2,g3,g4,g5⟩:=HF.out hmw (fun x hx=>hok.out.pts x hx) HE.out;exact bodyPost_ret (zV g1 rfl) rfl ⟨k,p,es,A1,c1,A2,c2,hok.out,by omega,rfl,g2,g3,g4,g5⟩
end Go.Proofs.YtkijckccfookeaaDoor
