/- Lemmas. -/
import Derived.Test.YtkijckccfookeaaDoorSmall
set_option linter.unusedVariables false
set_option linter.unusedSimpArgs false
namespace Go.Proofs.YtkijckccfookeaaDoor
open Go.RowKit
theorem QN (n:Int)(h: -9223372036854775808<=n/\n<=9223372036854775807):(af n).length<=20:=by
 have key:∀u:Nat,u<=9223372036854775808->(Lib.decDigits u).length<=19:=fun u hu=>by
  rw[Lib.decDigits_length];exact KG 18 u (by show u<10000000000000000000;omega)
 unfold af Lib.itoa;split
 ·have:=key n.natAbs (by omega);rw[aV];omega
 have:=key n.toNat (by omega);omega
theorem oV (n:Int)(h: -9223372036854775808<=n/\n<=9223372036854775807):(ah n).length<=21:=by have:=QN n h;unfold ah;simp;omega
theorem iq {n:Int}(h:N9 n):(ah n).length<=21:=oV n (by unfold N9 at h;omega)
theorem LU {k:Nat}{n:Int}(hk:k<=1000)(h:In k n):(ah n).length<=21:=oV n (by obtain⟨a,b⟩:=h;omega)
theorem Iz {k:Nat}(h:k<=1000000):(ah (k:Int)).length<=21:=oV _ (by omega)
theorem CX (b:Bool):(oN b).length=2:=by cases b<;>rfl
theorem uw {l:List Int}(hl:l.length<=1000)(h:∀n∈l,(ah n).length<=21):(rowB l).length<=21021:=by have h1:=jT l ah 21 1000 h hl;have h2:=Iz (k:=l.length) (by omega);unfold rowB;rw[la];omega
theorem Am {l:List (List Int)}(hl:l.length<=1000)(h:∀s∈l,s.length<=1000/\∀n∈s,(ah n).length<=21):(jd l).length<=21021021:=by have h1:=jT l rowB 21021 1000 (fun s hs=>uw (h s hs).1 (h s hs).2) hl;have h2:=Iz (k:=l.length) (by omega);unfold jd;rw[la];omega
theorem II {l:List Ins}(hl:l.length<=1000)(h:jr l):(dO l).length<=42021:=by
 have h1:=jT l lF 42 1000 (fun i hi=>by
  obtain⟨a,b,c⟩:=h i hi;have h1:=oV i.op (by omega);have h2:=iq c;unfold lF;rw[la];omega) hl
 have h2:=Iz (k:=l.length) (by omega);unfold dO;rw[la];omega
theorem yc {s:B}(h:nameB s=true):(lN s).length<=38:=by have h1:=iH h;have h2:=Iz (k:=s.length) (by omega);unfold lN;simp only[la,aV,ln];omega
theorem fF {α:Type}(l:List α)(f:α->B)(k:Nat)(hl:l.length<=1000)(h:∀x∈l,(f x).length<=k):(ah (l.length:Int)++l.flatMap f).length<=1000*k+21:=by have h1:=jT l f k 1000 h hl;have h2:=Iz (k:=l.length) (by omega);rw[la];omega
structure agx (g:aeS):Prop where
 pts:g.points.length<=1000
 ends:g.ends.length<=1000
 parts:g.parts.length<=1000
 anch:g.anchors.length<=1000
 ae3:g.deltas.length<=1000
 hint:g.hint.length<=1000
structure agw (r:ae4):Prop where
 rows:r.back.length<=1000/\r.in'.length<=1000/\r.ahead.length<=1000
 outs:r.out.length<=1000/\r.calls.length<=1000
structure agd (f:Fnt):Prop where
 aeN:f.aeN.length<=1000/\∀g∈f.aeN,agx g
 chars:f.chars.length<=1000
 aeO:f.aeO.length<=1000/\∀l∈f.aeO,l.rules.length<=1000/\∀r∈l.rules,agw r
 aeX:f.features.length<=1000/\∀x∈f.features,x.aeO.length<=1000
 aeP:f.aeP.length<=1000
 regs:f.regions.length<=1000/\∀r∈f.regions,r.ae0.length<=1000
 funcs:f.funcs.length<=1000/\∀p∈f.funcs,p.length<=1000
 cvt:f.cvt.length<=1000
theorem SmF.cap {f:Fnt}(h:SmF f):agd f:=
 {aeN:=⟨by have:=h.aeN.1;omega,fun g hg=>by have:=h.aeN.2 g hg;exact⟨by have:=this.pts;omega,by have:=this.ends;omega,by have:=this.parts;omega,by have:=this.anch;omega,by have:=this.ae3;omega,by have:=this.hint;omega⟩⟩
  chars:=by have:=h.chars;omega
  aeO:=⟨by have:=h.aeO.1;omega,fun l hl=>⟨by have:=(h.aeO.2 l hl).1;omega,fun r hr=>by have:=(h.aeO.2 l hl).2 r hr;exact⟨⟨by have:=this.rows;omega,by have:=this.rows;omega,by have:=this.rows;omega⟩,⟨by have:=this.outs;omega,by have:=this.outs;omega⟩⟩⟩⟩
  aeX:=⟨by have:=h.aeX.1;omega,fun x hx=>by have:=h.aeX.2 x hx;omega⟩
  aeP:=by have:=h.aeP;omega
  regs:=⟨by have:=h.regs.1;omega,fun x hx=>by have:=h.regs.2 x hx;omega⟩
  funcs:=⟨by have:=h.funcs.1;omega,fun x hx=>by have:=h.funcs.2 x hx;omega⟩
  cvt:=by have:=h.cvt;omega}
theorem LH {n:Nat}{g:aeS}(hn:n<=1000)(h:OkG n g)(hc:agx g):(dD g).length<=400000:=by
 have h1:=yc h.name;have h2:=iq h.adv;have h3:=CX g.mark;have h4:=fF g.points lU 44 hc.pts (fun p hp=>by
  have a:=iq (h.pts p hp).1;have b:=iq (h.pts p hp).2;have c:=CX p.on;unfold lU;simp only[la];omega)
 have he:∀(es:List Int) fr len,len<=1000->gU fr es len->∀e∈es,(ah e).length<=21:=by
  intro es;induction es with
  |nil=>intro fr len _ _ e he;simp at he
  |cons x xs ih=>
   intro fr len hl hok e he;obtain⟨a,b,c⟩:=hok;rw[agQ] at he;rcases he with rfl|he
   ·exact oV _ (by omega)
   exact ih _ _ hl c e he
 have h5:=uw hc.ends (he g.ends 0 _ hc.pts h.ends);have h6:=fF g.parts fQ 63 hc.parts (fun p hp=>by
  have:=h.parts p hp;have a:=LU hn this.1;have b:=iq this.2.1;have c:=iq this.2.2;unfold fQ;simp only[la];omega)
 have h7:=fF g.anchors fU 84 hc.anch (fun p hp=>by
  have:=h.anch p hp;have a:=oV p.kind (by omega);have b:=iq this.2.2.1;have c:=iq this.2.2.2.1;have d:=iq this.2.2.2.2;unfold fU;simp only[la];omega)
 have h8:=fF g.deltas ji 84 hc.ae3 (fun p hp=>by
  have:=h.ae3 p hp;have a:=iq this.1;have b:=iq this.2.1;have c:=iq this.2.2.1;have d:=iq this.2.2.2;unfold ji;simp only[la];omega)
 have h9:=II hc.hint h.hint;unfold dD Qv IA I7 Nc;simp only[la] at*
 omega
theorem Py {n:Nat}{k:Int}{r:ae4}(hn:n<=1000)(h:OkR n k r)(hc:agw r):(fG r).length<=64000000:=by
 have hs:∀s,OkS n s->s.length<=1000/\∀x∈s,(ah x).length<=21:=fun s hs=>⟨by have:=Kv hs;omega,fun x hx=>LU hn (hs.2 x hx)⟩
 have h1:=Am hc.rows.1 (fun s hs'=>hs s (h.back s hs'));have h2:=Am hc.rows.2.1 (fun s hs'=>hs s (h.in' s hs'));have h3:=Am hc.rows.2.2 (fun s hs'=>hs s (h.ahead s hs'));have h4:=uw hc.outs.1 (fun x hx=>LU hn (h.out x hx));have h5:=fF r.calls fZ 42 hc.outs.2 (fun c hc'=>by
  have a:=iq (h.calls c hc').1;have b:=iq (h.calls c hc').2;unfold fZ;simp only[la];omega)
 have h6:=iq h.x;unfold fG Bo;simp only[la] at*
 omega
theorem tC {f:Fnt}(h:afs f)(hc:agd f):(eF f).length<=100000000000000:=by
 have h1:=iq h.unit;have h2:=fF f.aeN dD 400000 hc.aeN.1 (fun g hg=>LH h.few (h.aeN g hg) (hc.aeN.2 g hg));have h3:=fF f.chars jk 42 hc.chars (fun c hc'=>by
  have a:=iq (h.chars c hc').1;have b:=LU h.few (h.chars c hc').2;unfold jk;simp only[la];omega)
 have h4:=fF f.aeO dZ 64000000044 hc.aeO.1 (fun l hl=>by
  have a:=oV l.kind (by have:=h.aeO l hl;omega);have b:=CX l.afh;have c:=fF l.rules fG 64000000 (hc.aeO.2 l hl).1 (fun r hr=>Py h.few ((h.aeO l hl).2.2 r hr) ((hc.aeO.2 l hl).2 r hr));unfold dZ IC;simp only[la] at*
  omega)
 have h5:=fF f.features gm 21059 hc.aeX.1 (fun x hx=>by
  have a:=yc (h.aeX x hx).1;have b:=uw (hc.aeX.2 x hx) (fun n hn=>iq ((h.aeX x hx).2 n hn));unfold gm;simp only[la];omega)
 have h6:=fF f.aeP fV 101 hc.aeP (fun x hx=>by
  obtain⟨a,b,c,d⟩:=h.aeP x hx;have a:=yc a;have b:=iq b;have c:=iq c;have d:=iq d;unfold fV;simp only[la];omega)
 have h7:=fF f.regions jC 63021 hc.regs.1 (fun x hx=>by
  have:=fF x.ae0 iC 63 (hc.regs.2 x hx) (fun t ht=>by
   obtain⟨a,b,c⟩:=h.regs x hx t ht;have a:=iq a;have b:=iq b;have c:=iq c;unfold iC;simp only[la];omega)
  unfold jC xY;exact this)
 have h8:=fF f.funcs dO 42021 hc.funcs.1 (fun p hp=>II (hc.funcs.2 p hp) (h.funcs p hp));have h9:=uw hc.cvt (fun n hn=>iq (h.cvt n hn));unfold eF Cm Na GM Iw MB ND Ir;simp only[la] at*
 omega
end Go.Proofs.YtkijckccfookeaaDoor
