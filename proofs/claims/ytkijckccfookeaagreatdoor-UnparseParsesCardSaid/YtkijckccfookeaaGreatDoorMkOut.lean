/- Lemmas. -/
import Derived.Test.YtkijckccfookeaaGreatDoorU12
set_option linter.unusedVariables false
set_option linter.unusedSimpArgs false
set_option maxRecDepth 100000
set_option maxHeartbeats 32000000
namespace Go.Proofs.YtkijckccfookeaaGreatDoor
open Go.RowKit
attribute [-go_sem] Builtin.append_
abbrev nI:TypeId:=53
abbrev yI:TypeId:=139
abbrev LD:List TypeId:=[yI,aQ]
structure alF (w:World)(m:Nat)(fs:Nat->Value)(lp:Int)(p:List Pt)(es:List Int)(A1:Option Addr)(c1:Nat)(A2:Option Addr)(c2:Nat)(wr:World):Prop where
 mkr:Mk wr m fs lp
 res:Bk wr w.heap.size nI #[.slice none 0 0,.slice none 0 0]
 var:Bk wr (w.heap.size+1) nI #[.slice A1 p.length c1,.slice A2 es.length c2]
 pts:wr.ownsRow w.heap.size yI 3 (.slice A1 p.length c1) p.length (Bq p)
 ends:wr.ownsRow w.heap.size aQ 1 (.slice A2 es.length c2) es.length (aH es)
 mv:Mv m w wr
section
variable {w:World} {m:Nat} {fs:Nat->Value} {lp:Int} {p:List Pt} {es:List Int} {A1 A2:Option Addr} {c1 c2:Nat} {wr:World}
theorem alF.next (h:alF w m fs lp p es A1 c1 A2 c2 wr){w2:World}(hm:Mk w2 m fs lp)(hv:Mv m wr w2):alF w m fs lp p es A1 c1 A2 c2 w2:=by have hs:=Sp.next h.mkr hv;exact⟨hm,hs.bk h.res (by decide),hs.bk h.var (by decide),hs.own h.pts (by decide),hs.own h.ends (by decide),gu h.mv hv⟩
theorem alF.drew (h:alF w m fs lp p es A1 c1 A2 c2 wr):alF w m fs lp p es A1 c1 A2 c2 wr.drew:=⟨h.mkr,h.res,h.var,h.pts,h.ends,⟨h.mv.os,h.mv.tape,h.mv.output,h.mv.size,h.mv.block⟩⟩
theorem alF.amT (h:alF w m fs lp p es A1 c1 A2 c2 wr)(hmw:m<w.heap.size){w2:World}{A:Option Addr}{c n:Nat}{x:Pt}(hn:n=p.length+1)(hg:wr.grownBy w2 (Value.slice A1 p.length c1).ownBlock)(ho:w2.ownsRow w.heap.size yI 3 (.slice A n c) n (Bq p++ptM x)):
  alF w m fs lp (p++[x]) es A c A2 c2 (w2.setCell ⟨w.heap.size+1,0,none⟩ (.slice A n c)):=by
 subst hn;have hs:Sp m yI wr w2:=Sp.push h.pts (by omega) hg;have hvar:=hs.bk h.var (by decide);have hv2:=kK h.mv h.pts (af _) hg;have hs2:Sp m nI w2 (w2.setCell ⟨w.heap.size+1,0,none⟩ (.slice A (p.length+1) c)):=Sp.set hvar (by omega) 0 _;have hl:(p++[x]).length=p.length+1:=by simp
 refine⟨hs2.mk (hs.mk h.mkr (by decide)) (by decide),(hs.bk h.res (by decide)).far (by simp) _,?_,?_,hs2.own (hs.own h.ends (by decide)) (by decide),uV hv2 (by omega) _ _⟩
 ·have:=hvar.set 0 (.slice A (p.length+1) c);rw[hl];exact this
 have:=hs2.own ho (by decide);rw[hl,Zj];simpa [Bq] using this
theorem alF.point (h:alF w m fs lp p es A1 c1 A2 c2 wr)(hmw:m<w.heap.size){n:Nat}(hn:p.length=n)(hl:n<=1000)(v1 v2:Int)(b:Bool):
  ∃A5 c5 w9,(Builtin.append_ #[51,51] 51 #[.slice A1 n c1,.slice (some ⟨wr.heap.size,0,none⟩) 1 1]).run Tryz.prog (wr.alloc (.cells #[.int .i64 v1,.int .i64 v2,.bool b] yI))= .ok (.slice A5 (n+1) c5) w9/\
   w9.cell? ⟨w.heap.size+1,0,none⟩=some (.slice A1 n c1)/\w9.frozen? ⟨w.heap.size+1,0,none⟩=false/\alF w m fs lp (p++[⟨v1,v2,b⟩]) es A5 c5 A2 c2 (w9.setCell ⟨w.heap.size+1,0,none⟩ (.slice A5 (n+1) c5)):=by
 subst hn;obtain⟨A5,c5,w9,hrun,aS,ax,bi⟩:=iJ Z8 51 wr w.heap.size _ c1 A1 _ #[.int .i64 v1,.int .i64 v2,.bool b] rfl h.pts (by simp[Value.oneCell']) (by omega) h.mv.size;have Jb:=(Sp.push h.pts (show m<=w.heap.size by omega) ax).bk h.var (by decide);exact⟨A5,c5,w9,hrun,Jb.cell 0,Jb.frozen 0,h.amT hmw rfl ax aS⟩
theorem alF.amM (h:alF w m fs lp p es A1 c1 A2 c2 wr)(hmw:m<w.heap.size){w2:World}{A:Option Addr}{c n:Nat}{x:Int}(hn:n=es.length+1)(hg:wr.grownBy w2 (Value.slice A2 es.length c2).ownBlock)(ho:w2.ownsRow w.heap.size aQ 1 (.slice A n c) n (aH es++[.int .i64 x])):
  alF w m fs lp p (es++[x]) A1 c1 A c (w2.setCell ⟨w.heap.size+1,1,none⟩ (.slice A n c)):=by
 subst hn;have hs:Sp m aQ wr w2:=Sp.push h.ends (by omega) hg;have hvar:=hs.bk h.var (by decide);have hv2:=kK h.mv h.ends (af _) hg;have hs2:Sp m nI w2 (w2.setCell ⟨w.heap.size+1,1,none⟩ (.slice A (es.length+1) c)):=Sp.set hvar (by omega) 1 _;have hl:(es++[x]).length=es.length+1:=by simp
 refine⟨hs2.mk (hs.mk h.mkr (by decide)) (by decide),(hs.bk h.res (by decide)).far (by simp) _,?_,hs2.own (hs.own h.pts (by decide)) (by decide),?_,uV hv2 (by omega) _ _⟩
 ·have:=hvar.set 1 (.slice A (es.length+1) c);rw[hl];exact this
 have:=hs2.own ho (by decide);rw[hl];simpa [aH,cI] using this
theorem alF.fin (h:alF w m fs lp p es A1 c1 A2 c2 wr)(hmw:m<w.heap.size)(hp:∀x∈p,N9 x.x/\N9 x.y)(he:∀e∈es,I64 e):
  Bk ((wr.setCell ⟨w.heap.size,0,none⟩ (.slice A1 p.length c1)).setCell ⟨w.heap.size,1,none⟩ (.slice A2 es.length c2)) w.heap.size nI #[.slice A1 p.length c1,.slice A2 es.length c2]/\
   Sl PtR 3 ((wr.setCell ⟨w.heap.size,0,none⟩ (.slice A1 p.length c1)).setCell ⟨w.heap.size,1,none⟩ (.slice A2 es.length c2)) (TS LD w.heap.size ((wr.setCell ⟨w.heap.size,0,none⟩ (.slice A1 p.length c1)).setCell ⟨w.heap.size,1,none⟩ (.slice A2 es.length c2))) A1 p/\
   Sl akL 1 ((wr.setCell ⟨w.heap.size,0,none⟩ (.slice A1 p.length c1)).setCell ⟨w.heap.size,1,none⟩ (.slice A2 es.length c2)) (TS LD w.heap.size ((wr.setCell ⟨w.heap.size,0,none⟩ (.slice A1 p.length c1)).setCell ⟨w.heap.size,1,none⟩ (.slice A2 es.length c2))) A2 es/\
   Mk ((wr.setCell ⟨w.heap.size,0,none⟩ (.slice A1 p.length c1)).setCell ⟨w.heap.size,1,none⟩ (.slice A2 es.length c2)) m fs lp/\Mv m w ((wr.setCell ⟨w.heap.size,0,none⟩ (.slice A1 p.length c1)).setCell ⟨w.heap.size,1,none⟩ (.slice A2 es.length c2)):=by
 have k1:=h.res.set 0 (.slice A1 p.length c1);have k2:=k1.set 1 (.slice A2 es.length c2);have s1:Sp m nI wr (wr.setCell ⟨w.heap.size,0,none⟩ (.slice A1 p.length c1)):=Sp.set h.res (by omega) 0 _;have s2:Sp m nI _ ((wr.setCell ⟨w.heap.size,0,none⟩ (.slice A1 p.length c1)).setCell ⟨w.heap.size,1,none⟩ (.slice A2 es.length c2)):=Sp.set k1 (by omega) 1 _;exact⟨k2,dG (s2.own (s1.own h.pts (by decide)) (by decide)) (ac8 _ _ p (fun x hx=>by have:=hp x hx;unfold N9 at this;unfold I64;omega)) (by decide) (af _) (by omega),
  dG (s2.own (s1.own h.ends (by decide)) (by decide)) (jP _ _ es he) (by decide) (af _) (by omega),
  s2.mk (s1.mk h.mkr (by decide)) (by decide),uV (uV h.mv (af _) _ _) (af _) _ _⟩
end
theorem alQ.anb {k:Nat}{p:List Pt}{es:List Int}(h:alQ k p es)(hk:k<=1000):∀e∈es,I64 e:=by
 have key:∀(es:List Int) fr n,n<=100000->rH fr es n->∀e∈es,I64 e:=by
  intro es;induction es with
  |nil=>intro fr n _ _ e he;simp at he
  |cons x xs ih=>
   intro fr n hl hok e he;obtain⟨a,b,c⟩:=hok;rw[anG] at he;rcases he with rfl|he
   ·unfold I64;omega
   exact ih _ _ hl c e he
 exact key es 0 _ (by have:=h.few;omega) h.ends
theorem ql {fn:Func}{p:Tmp}{ty:TypeId}(h:fn.results= #[.cell p ty])(tmps:Array Value)(P:Program)(w:World):
  (results fn tmps).run P w=((asAddr (tmps.getD p undef)).run P w).andThen fun a w₁=>((loadVar ty a).run P w₁):=by
 simp only[results,h];simp[Sem.run_bind,Result.andThen]
theorem abY:(Tryz.prog.info? nI).map (·.size)=some 2:=by kernel_rfl
theorem PQ {W:World}{g:Nat}{a b:Value}{tmps:Array Value}(hb:Bk W g nI #[a,b])(h2:tmps.getD 2 undef= .pointer (some ⟨g,0,none⟩)):(results Tryz.f107 tmps).run Tryz.prog W= .ok (.agg #[a,b]) W:=by rw[ql (fn:=Tryz.f107) (p:=2) (ty:=nI) rfl,h2];have:=run_loadVar_row (P:=Tryz.prog) W g nI nI #[a,b] (0,0) _ hb Tryz.underlying53 rfl (by rw[abY];rfl);simp[asAddr,Result.andThen,this]
def ace (w:World)(m:Nat)(fs:Nat->Value)(lp:Int)(e:Ending)(w':World):Prop:=∃(k:Nat) (p:List Pt) (es:List Int) (A1:Option Addr) (c1:Nat) (A2:Option Addr) (c2:Nat),alQ k p es/\k<=2/\e= .returned (.agg #[.slice A1 p.length c1,.slice A2 es.length c2])/\Sl PtR 3 w' (TS LD w.heap.size w') A1 p/\Sl akL 1 w' (TS LD w.heap.size w') A2 es/\Mk w' m fs lp/\Mv m w w'
theorem wrap_in (z:Int)(h1: -1000000<=z)(h2:z<=1000000):IntKind.i64.wrap z=z:=by simp[IntKind.wrap,IntKind.signed,IntKind.bits];omega
theorem JE (x:Nat)(h:x<21):N9 (IntKind.i64.wrap (IntKind.i64.wrap ((x:Int)*50) - 100))/\N9 (IntKind.i64.wrap (IntKind.i64.wrap ((x:Int)*50) - 200)):=by rw[wrap_in ((x:Int)*50) (by omega) (by omega),wrap_in ((x:Int)*50 - 100) (by omega) (by omega),wrap_in ((x:Int)*50 - 200) (by omega) (by omega)];unfold N9;omega
theorem aaU {q:List Pt}{j:Nat}(h:q.length=j/\∀x∈q,N9 x.x/\N9 x.y){x1 x2:Nat}(h1:x1<21)(h2:x2<21){b:Bool}:Hid ((q++[(⟨IntKind.i64.wrap (IntKind.i64.wrap ((x1:Int)*50) - 100),IntKind.i64.wrap (IntKind.i64.wrap ((x2:Int)*50) - 200),b⟩:Pt)]).length=j+1/\∀x∈q++[(⟨IntKind.i64.wrap (IntKind.i64.wrap ((x1:Int)*50) - 100),IntKind.i64.wrap (IntKind.i64.wrap ((x2:Int)*50) - 200),b⟩:Pt)],N9 x.x/\N9 x.y):=hd0 ⟨by simp[h.1],fun x hx=>by
 rw[anz,anu] at hx;rcases hx with hx|rfl
 ·exact h.2 x hx
 exact⟨(JE x1 h1).1,(JE x2 h2).2⟩⟩
theorem SK (w:World)(m:Nat)(fs:Nat->Value)(lp:Int)(h:Mk w m fs lp):Calls Tryz.prog 107 #[.pointer (some ⟨m,0,none⟩)] w (ace w m fs lp):=by
 have hmw:=h.lt;have H:=hd0 h;clear h;go_enter Tryz.func107,Tryz.ntmps107
 go_wp2_with fail
 obtain⟨W0,hW0⟩:∃W0,(w.alloc (.cells #[.slice none 0 0,.slice none 0 0] nI)).alloc (.cells #[.slice none 0 0,.slice none 0 0] nI)=W0:=⟨_,rfl⟩
 rw[hW0];have hI:alF w m fs lp [] [] none 0 none 0 W0:=by rw[<-hW0];have b1:Below w.heap.size w ((w.alloc (.cells #[.slice none 0 0,.slice none 0 0] nI)).alloc (.cells #[.slice none 0 0,.slice none 0 0] nI)):=((ant _ _).alloc (af _) _).alloc (by simp) _;refine⟨H.out.below b1,(Bk.new w _ _).alloc _,?_,World.ownsRow_nil _ _ _ _,World.ownsRow_nil _ _ _ _,jS (DJ m w) b1⟩;have:=Bk.new (w.alloc (.cells #[.slice none 0 0,.slice none 0 0] nI)) nI #[.slice none 0 0,.slice none 0 0];simpa using this
 have HI:=hd0 hI;clear hW0 hI;refine(az W0 m fs lp 3 HI.out.mkr (by omega) (by omega)).mono ?_;rintro e w1 ⟨x,hx,rfl,hm1,hv1⟩;have HI1:=hd0 (HI.out.next hm1 hv1);clear hm1 hv1 HI;go_wp2_with fail
 go_loopw [5] (fun i wr=>∃(k:Nat) (p:List Pt) (es:List Int) (A1:Option Addr) (c1:Nat) (A2:Option Addr) (c2:Nat),k<=x/\i= .int .i64 k/\Hid (alQ k p es)/\alF w m fs lp p es A1 c1 A2 c2 wr) (fun i _=>x - (intOf i).toNat)
 case atStart=>exact⟨0,[],[],none,0,none,0,nz _,rfl,hd0 alQ.nil,HI1.out⟩
 case round=>
  obtain⟨wa,rfl⟩:∃x,x=wr:=⟨_,rfl⟩
  obtain⟨k,p,es,A1,c1,A2,c2,hk,rfl,hok,hI⟩:=hrel;have HI:=hd0 hI;clear hI;by_cases hlt:k<x
  ·go_wp2_with fail
   refine(az wa m fs lp 4 HI.out.mkr (by omega) (by omega)).mono ?_;rintro e w2 ⟨y,hy,rfl,hm2,hv2⟩;have HI2:=hd0 (HI.out.next hm2 hv2);clear hm2 hv2 HI;go_wp2_with fail
   go_loopw [7] (fun i wr=>∃(j:Nat) (q:List Pt) (A:Option Addr) (c:Nat),j<=2+y/\i= .int .i64 j/\Hid (q.length=j/\∀x∈q,N9 x.x/\N9 x.y)/\alF w m fs lp (p++q) es A c A2 c2 wr) (fun i _=>2+y - (intOf i).toNat)
   case atStart=>exact⟨0,[],A1,c1,nz _,rfl,hd0 (by simp),by simpa using HI2.out⟩
   case round=>
    obtain⟨wb,rfl⟩:∃x,x=wr:=⟨_,rfl⟩
    obtain⟨j,q,A,c,hj,rfl,hq,hI⟩:=hrel;have HJ:=hd0 hI;have q0:wb.cell? ⟨w.heap.size+1,0,none⟩=some (.slice A (p.length+q.length) c):=by rw[<-la];exact hI.var.cell 0
    have zo:=hI.var.lt;clear hI;have ji:w.heap.size+1≠m:=by omega
    have hpl:p.length+q.length<=100:=by have:=hok.out.few;have:=hq.out.1;omega
    by_cases hlt2:j<2+y
    ·by_cases hj0:j=0
     ·have ej:(j:Int)=0:=by omega
      rw[ej];clear ej;go_wp2_with fail
      have bQ:True:=trivial;have gp:True:=trivial
      first|(go_region_with (first
       |(go_at_call 59;have _t:=bQ;refine(az _ m fs lp 21 (by exact HJ.out.mkr) (by omega) (by omega)).mono ?_;rintro e w3 ⟨x1,hx1,rfl,bn,hv3⟩;have q3:=dK hv3 ji q0;clear _t bQ)
       |(go_at_call 59;have _t:=gp;refine(az _ m fs lp 21 (by exact bn) (by omega) (by omega)).mono ?_;rintro e w4 ⟨x2,hx2,rfl,hm4,hv4⟩;have q4:=dK hv4 ji q3;have HI4:=(HJ.out.drew.next bn hv3).next hm4 hv4;have y4:w4.frozen? ⟨w.heap.size+1,0,none⟩=false:=HI4.var.frozen 0;have z4:w.heap.size+1<w4.heap.size:=HI4.var.lt;obtain⟨A5,c5,w9,hrun,x9,y9,Xe⟩:=HI4.point hmw (n:=p.length+q.length) (by rw[la]) (by omega) (IntKind.i64.wrap (IntKind.i64.wrap ((x1:Int)*50) - 100)) (IntKind.i64.wrap (IntKind.i64.wrap ((x2:Int)*50) - 200)) true;have VT:=hd0 Xe;clear _t gp HI4 Xe)))|fail
      all_goals
       go_wp2_with fail
       go_roundw
       case rel=>exact⟨j+1,q++[⟨IntKind.i64.wrap (IntKind.i64.wrap ((x1:Int)*50) - 100),IntKind.i64.wrap (IntKind.i64.wrap ((x2:Int)*50) - 200),true⟩],A5,c5,by omega,by simp[hj0],aaU hq.out hx1 hx2,by have h:=VT.out;rwa [anH] at h⟩
       case measure=>first|(simp[intOf];done)|(simp[intOf];omega)
     have ej:((j:Int)==0)=false:=by simp;omega
     go_wp2_with fail
     have bQ:True:=trivial;have gp:True:=trivial;have lu:True:=trivial
     first|(go_region_with (first
      |(go_at_call 59;have _t:=bQ;refine(az _ m fs lp 21 (by exact HJ.out.mkr) (by omega) (by omega)).mono ?_;rintro e w3 ⟨x1,hx1,rfl,bn,hv3⟩;have q3:=dK hv3 ji q0;clear _t bQ)
      |(go_at_call 59;have _t:=gp;refine(az _ m fs lp 21 (by exact bn) (by omega) (by omega)).mono ?_;rintro e w4 ⟨x2,hx2,rfl,hm4,hv4⟩;have q4:=dK hv4 ji q3;clear _t gp)
      |(go_at_call 59;have _t:=lu;refine(az _ m fs lp 4 (by exact hm4) (by omega) (by omega)).mono ?_;rintro e w5 ⟨x3,hx3,rfl,Ii,hv5⟩;have q5:=dK hv5 ji q4;have HI5:=((HJ.out.drew.next bn hv3).next hm4 hv4).next Ii hv5;have y5:w5.frozen? ⟨w.heap.size+1,0,none⟩=false:=HI5.var.frozen 0;have z5:w.heap.size+1<w5.heap.size:=HI5.var.lt;obtain⟨A5,c5,w9,hrun,x9,y9,Xe⟩:=HI5.point hmw (n:=p.length+q.length) (by rw[la]) (by omega) (IntKind.i64.wrap (IntKind.i64.wrap ((x1:Int)*50) - 100)) (IntKind.i64.wrap (IntKind.i64.wrap ((x2:Int)*50) - 200)) (decide (0<x3));have VT:=hd0 Xe;clear _t lu HI5 Xe)))|fail
     all_goals
      go_wp2_with fail
      go_roundw
      case rel=>exact⟨j+1,q++[⟨IntKind.i64.wrap (IntKind.i64.wrap ((x1:Int)*50) - 100),IntKind.i64.wrap (IntKind.i64.wrap ((x2:Int)*50) - 200),decide (0<x3)⟩],A5,c5,by omega,by simp,aaU hq.out hx1 hx2,by have h:=VT.out;rwa [anH] at h⟩
      case measure=>first|(simp[intOf];done)|(simp[intOf];omega)
    obtain rfl:j=2+y:=by omega
    have G9:Hid (alQ (k+1) (p++q) (es++[((p.length+q.length:Nat):Int) - 1])):=hd0 (hok.out.snoc hq.out.2 (by have:=hq.out.1;omega) (by have:=hq.out.1;omega) rfl);have hel:es.length=k:=hok.out.few.2;have hk9:es.length<=10:=by omega
    have q1:wb.cell? ⟨w.heap.size+1,1,none⟩=some (.slice A2 es.length c2):=HJ.out.var.cell 1;have y1:wb.frozen? ⟨w.heap.size+1,1,none⟩=false:=HJ.out.var.frozen 1;clear hel;go_wp2_with (at_builtin;refine iP iL rfl (.tmp 45) (.tmp 50) rfl wb wb.heap.size rfl w.heap.size es.length c2 A2 (aH es) #[.int .i64 ((p.length:Int)+q.length - 1)] rfl rfl rfl HJ.out.ends (by simp[Value.oneCell']) (by omega) HJ.out.mv.size ?_;intro A5 c5 w9 h9 g9 l9;have VT:=hd0 (HJ.out.amM hmw rfl g9 h9);have Jb:=(Sp.push HJ.out.ends (show m<=w.heap.size by omega) g9).bk HJ.out.var (by decide);have x9:w9.cell? ⟨w.heap.size+1,1,none⟩=some (.slice A2 es.length c2):=Jb.cell 1;have y9:w9.frozen? ⟨w.heap.size+1,1,none⟩=false:=Jb.frozen 1;clear h9 g9 l9 Jb)
    go_roundw
    case rel=>exact⟨k+1,p++q,es++[((p.length+q.length:Nat):Int) - 1],A,c,A5,c5,by omega,by simp,G9,by have h:=VT.out;simpa using h⟩
    case measure=>simp[intOf];omega
  have HF:=hd0 HI.out.fin;have HE:=hd0 (hok.out.anb (by omega));have v0:wa.cell? ⟨w.heap.size+1,0,none⟩=some (.slice A1 p.length c1):=HI.out.var.cell 0;have v1:wa.cell? ⟨w.heap.size+1,1,none⟩=some (.slice A2 es.length c2):=HI.out.var.cell 1;have r0:wa.cell? ⟨w.heap.size,0,none⟩=some (.slice none 0 0):=HI.out.res.cell 0;have r1:wa.cell? ⟨w.heap.size,1,none⟩=some (.slice none 0 0):=HI.out.res.cell 1;have f0:wa.frozen? ⟨w.heap.size,0,none⟩=false:=HI.out.res.frozen 0;have f1:wa.frozen? ⟨w.heap.size,1,none⟩=false:=HI.out.res.frozen 1;go_wp2_with fail
  obtain⟨g1,g2,g3,g4,g5⟩:=HF.out hmw (fun x hx=>hok.out.pts x hx) HE.out;exact bodyPost_ret (PQ g1 rfl) rfl ⟨k,p,es,A1,c1,A2,c2,hok.out,by omega,rfl,g2,g3,g4,g5⟩
end Go.Proofs.YtkijckccfookeaaGreatDoor
