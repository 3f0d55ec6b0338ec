/- Lemmas. -/
import Derived.Test.YtkijckccfookeaaGreatDoorPaE
set_option linter.unusedVariables false
set_option linter.unusedSimpArgs false
namespace Go.Proofs.YtkijckccfookeaaGreatDoor
open Go.RowKit
theorem Zf (n:Int)(h: -9223372036854775808<=n/\n<=9223372036854775807):(ah n).length<=20:=by
 have key:∀u:Nat,u<=9223372036854775808->(Lib.decDigits u).length<=19:=fun u hu=>by
  rw[Lib.decDigits_length];exact Sv 18 u (by show u<10000000000000000000;omega)
 unfold ah Lib.itoa;split
 ·have:=key n.natAbs (by omega);rw[aT];omega
 have:=key n.toNat (by omega);omega
theorem uq (n:Int)(h: -9223372036854775808<=n/\n<=9223372036854775807):(ai n).length<=21:=by have:=Zf n h;unfold ai;simp;omega
theorem jg {n:Int}(h:N9 n):(ai n).length<=21:=uq n (by unfold N9 at h;omega)
theorem Tz {k:Nat}{n:Int}(hk:k<=1000)(h:In k n):(ai n).length<=21:=uq n (by obtain⟨a,b⟩:=h;omega)
theorem MG {k:Nat}(h:k<=1000000):(ai (k:Int)).length<=21:=uq _ (by omega)
theorem Jh (b:Bool):(ww b).length=2:=by cases b<;>rfl
theorem yG {l:List Int}(hl:l.length<=1000)(h:∀n∈l,(ai n).length<=21):(rowB l).length<=21021:=by have h1:=oO l ai 21 1000 h hl;have h2:=MG (k:=l.length) (by omega);unfold rowB;rw[la];omega
theorem FI {l:List (List Int)}(hl:l.length<=1000)(h:∀s∈l,s.length<=1000/\∀n∈s,(ai n).length<=21):(lh l).length<=21021021:=by have h1:=oO l rowB 21021 1000 (fun s hs=>yG (h s hs).1 (h s hs).2) hl;have h2:=MG (k:=l.length) (by omega);unfold lh;rw[la];omega
theorem NV {l:List Ins}(hl:l.length<=1000)(h:mG l):(fG l).length<=42021:=by
 have h1:=oO l qE 42 1000 (fun i hi=>by
  obtain⟨a,b,c⟩:=h i hi;have h1:=uq i.op (by omega);have h2:=jg c;unfold qE;rw[la];omega) hl
 have h2:=MG (k:=l.length) (by omega);unfold fG;rw[la];omega
theorem Bz {s:B}(h:nameB s=true):(rY s).length<=38:=by have h1:=wZ h;have h2:=MG (k:=s.length) (by omega);unfold rY;simp only[la,aT,ln];omega
theorem iE {α:Type}(l:List α)(f:α->B)(k:Nat)(hl:l.length<=1000)(h:∀x∈l,(f x).length<=k):(ai (l.length:Int)++l.flatMap f).length<=1000*k+21:=by have h1:=oO l f k 1000 h hl;have h2:=MG (k:=l.length) (by omega);rw[la];omega
structure am9 (g:akN):Prop where
 pts:g.points.length<=1000
 ends:g.ends.length<=1000
 parts:g.parts.length<=1000
 anch:g.anchors.length<=1000
 alh:g.deltas.length<=1000
 hint:g.hint.length<=1000
structure ana (r:als):Prop where
 rows:r.back.length<=1000/\r.in'.length<=1000/\r.ahead.length<=1000
 outs:r.out.length<=1000/\r.calls.length<=1000
structure am6 (f:Fnt):Prop where
 akJ:f.akJ.length<=1000/\∀g∈f.akJ,am9 g
 chars:f.chars.length<=1000
 akK:f.akK.length<=1000/\∀l∈f.akK,l.rules.length<=1000/\∀r∈l.rules,ana r
 ak0:f.features.length<=1000/\∀x∈f.features,x.akK.length<=1000
 akP:f.akP.length<=1000
 regs:f.regions.length<=1000/\∀r∈f.regions,r.ak1.length<=1000
 funcs:f.funcs.length<=1000/\∀p∈f.funcs,p.length<=1000
 cvt:f.cvt.length<=1000
theorem SmF.cap {f:Fnt}(h:SmF f):am6 f:=
 {akJ:=⟨by have:=h.akJ.1;omega,fun g hg=>by have:=h.akJ.2 g hg;exact⟨by have:=this.pts;omega,by have:=this.ends;omega,by have:=this.parts;omega,by have:=this.anch;omega,by have:=this.alh;omega,by have:=this.hint;omega⟩⟩
  chars:=by have:=h.chars;omega
  akK:=⟨by have:=h.akK.1;omega,fun l hl=>⟨by have:=(h.akK.2 l hl).1;omega,fun r hr=>by have:=(h.akK.2 l hl).2 r hr;exact⟨⟨by have:=this.rows;omega,by have:=this.rows;omega,by have:=this.rows;omega⟩,⟨by have:=this.outs;omega,by have:=this.outs;omega⟩⟩⟩⟩
  ak0:=⟨by have:=h.ak0.1;omega,fun x hx=>by have:=h.ak0.2 x hx;omega⟩
  akP:=by have:=h.akP;omega
  regs:=⟨by have:=h.regs.1;omega,fun x hx=>by have:=h.regs.2 x hx;omega⟩
  funcs:=⟨by have:=h.funcs.1;omega,fun x hx=>by have:=h.funcs.2 x hx;omega⟩
  cvt:=by have:=h.cvt;omega}
theorem S9 {n:Nat}{g:akN}(hn:n<=1000)(h:OkG n g)(hc:am9 g):(eH g).length<=400000:=by
 have h1:=Bz h.name;have h2:=jg h.adv;have h3:=Jh g.mark;have h4:=iE g.points qV 44 hc.pts (fun p hp=>by
  have a:=jg (h.pts p hp).1;have b:=jg (h.pts p hp).2;have c:=Jh p.on;unfold qV;simp only[la];omega)
 have he:∀(es:List Int) fr len,len<=1000->rH fr es len->∀e∈es,(ai e).length<=21:=by
  intro es;induction es with
  |nil=>intro fr len _ _ e he;simp at he
  |cons x xs ih=>
   intro fr len hl hok e he;obtain⟨a,b,c⟩:=hok;rw[anG] at he;rcases he with rfl|he
   ·exact uq _ (by omega)
   exact ih _ _ hl c e he
 have h5:=yG hc.ends (he g.ends 0 _ hc.pts h.ends);have h6:=iE g.parts jv 63 hc.parts (fun p hp=>by
  have:=h.parts p hp;have a:=Tz hn this.1;have b:=jg this.2.1;have c:=jg this.2.2;unfold jv;simp only[la];omega)
 have h7:=iE g.anchors jw 84 hc.anch (fun p hp=>by
  have:=h.anch p hp;have a:=uq p.kind (by omega);have b:=jg this.2.2.1;have c:=jg this.2.2.2.1;have d:=jg this.2.2.2.2;unfold jw;simp only[la];omega)
 have h8:=iE g.deltas lU 84 hc.alh (fun p hp=>by
  have:=h.alh p hp;have a:=jg this.1;have b:=jg this.2.1;have c:=jg this.2.2.1;have d:=jg this.2.2.2;unfold lU;simp only[la];omega)
 have h9:=NV hc.hint h.hint;unfold eH aaQ OZ Pq UY;simp only[la] at*
 omega
theorem Xo {n:Nat}{k:Int}{r:als}(hn:n<=1000)(h:OkR n k r)(hc:ana r):(ja r).length<=64000000:=by
 have hs:∀s,Ox n s->s.length<=1000/\∀x∈s,(ai x).length<=21:=fun s hs=>⟨by have:=Si hs;omega,fun x hx=>Tz hn (hs.2 x hx)⟩
 have h1:=FI hc.rows.1 (fun s hs'=>hs s (h.back s hs'));have h2:=FI hc.rows.2.1 (fun s hs'=>hs s (h.in' s hs'));have h3:=FI hc.rows.2.2 (fun s hs'=>hs s (h.ahead s hs'));have h4:=yG hc.outs.1 (fun x hx=>Tz hn (h.out x hx));have h5:=iE r.calls jr 42 hc.outs.2 (fun c hc'=>by
  have a:=jg (h.calls c hc').1;have b:=jg (h.calls c hc').2;unfold jr;simp only[la];omega)
 have h6:=jg h.x;unfold ja Ij;simp only[la] at*
 omega
theorem WO {f:Fnt}(h:al1 f)(hc:am6 f):(mZ f).length<=100000000000000:=by
 have h1:=jg h.unit;have h2:=iE f.akJ eH 400000 hc.akJ.1 (fun g hg=>S9 h.few (h.akJ g hg) (hc.akJ.2 g hg));have h3:=iE f.chars lQ 42 hc.chars (fun c hc'=>by
  have a:=jg (h.chars c hc').1;have b:=Tz h.few (h.chars c hc').2;unfold lQ;simp only[la];omega)
 have h4:=iE f.akK iq 64000000044 hc.akK.1 (fun l hl=>by
  have a:=uq l.kind (by have:=h.akK l hl;omega);have b:=Jh l.alr;have c:=iE l.rules ja 64000000 (hc.akK.2 l hl).1 (fun r hr=>Xo h.few ((h.akK l hl).2.2 r hr) ((hc.akK.2 l hl).2 r hr));unfold iq OW;simp only[la] at*
  omega)
 have h5:=iE f.features jo 21059 hc.ak0.1 (fun x hx=>by
  have a:=Bz (h.ak0 x hx).1;have b:=yG (hc.ak0.2 x hx) (fun n hn=>jg ((h.ak0 x hx).2 n hn));unfold jo;simp only[la];omega)
 have h6:=iE f.akP jm 101 hc.akP (fun x hx=>by
  obtain⟨a,b,c,d⟩:=h.akP x hx;have a:=Bz a;have b:=jg b;have c:=jg c;have d:=jg d;unfold jm;simp only[la];omega)
 have h7:=iE f.regions lS 63021 hc.regs.1 (fun x hx=>by
  have:=iE x.ak1 jY 63 (hc.regs.2 x hx) (fun t ht=>by
   obtain⟨a,b,c⟩:=h.regs x hx t ht;have a:=jg a;have b:=jg b;have c:=jg c;unfold jY;simp only[la];omega)
  unfold lS Bv;exact this)
 have h8:=iE f.funcs fG 42021 hc.funcs.1 (fun p hp=>NV (hc.funcs.2 p hp) (h.funcs p hp));have h9:=yG hc.cvt (fun n hn=>jg (h.cvt n hn));unfold mZ JC U7 Oa MI Tm TN Nl;simp only[la] at*
 omega
theorem UN {w:World}{l:List (String×DataW Unit)}(h:laidMet Tryz.prog l w)
  (m1:("fleuron/parse.opNames",Rows.laid_fleuron_parse_opNames)∈l) (m2:("fleuron/parse.anchorNames",Rows.laid_fleuron_parse_anchorNames)∈l) (m3:("fleuron/parse.lookupNames",Rows.laid_fleuron_parse_lookupNames)∈l):ali w∧nT≤w.heap.size:=
 ⟨⟨qX (jL h m1) (by kernel_rfl) (by kernel_rfl) Tryz.underlying144 Tryz.underlying9 (by kernel_rfl) (by kernel_rfl),
 qX (jL h m2) (by kernel_rfl) (by kernel_rfl) Tryz.underlying205 Tryz.underlying9 (by kernel_rfl) (by kernel_rfl),
 qX (jL h m3) (by kernel_rfl) (by kernel_rfl) Tryz.underlying206 Tryz.underlying9 (by kernel_rfl) (by kernel_rfl)⟩,
 VR (jL h m3) (by kernel_rfl)⟩
end Go.Proofs.YtkijckccfookeaaGreatDoor
