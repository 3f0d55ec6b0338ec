/- Lemmas. -/
import Derived.Test.YtkijckccfookeaaGreatDoorV14
set_option linter.unusedVariables false
set_option linter.unusedSimpArgs false
namespace Go.Proofs.YtkijckccfookeaaGreatDoor
open Go.RowKit
theorem ZX (n:Int)(h: -9223372036854775808<=n/\n<=9223372036854775807):(aN n).length<=20:=by
 have key:∀u:Nat,u<=9223372036854775808->(Lib.decDigits u).length<=19:=fun u hu=>by
  rw[Lib.decDigits_length];exact UW 18 u (by show u<10000000000000000000;omega)
 unfold aN Lib.itoa;split
 ·have:=key n.natAbs (by omega);rw[ay];omega
 have:=key n.toNat (by omega);omega
theorem nH (n:Int)(h: -9223372036854775808<=n/\n<=9223372036854775807):(ai n).length<=21:=by have:=ZX n h;unfold ai;simp;omega
theorem jh {n:Int}(h:N9 n):(ai n).length<=21:=nH n (by unfold N9 at h;omega)
theorem Xd {k:Nat}{n:Int}(hk:k<=1000)(h:In k n):(ai n).length<=21:=nH n (by obtain⟨a,b⟩:=h;omega)
theorem Q3 {k:Nat}(h:k<=1000000):(ai (k:Int)).length<=21:=nH _ (by omega)
theorem ww (b:Bool):(wO b).length=2:=by cases b<;>rfl
theorem yH {l:List Int}(hl:l.length<=1000)(h:∀n∈l,(ai n).length<=21):(rowB l).length<=21021:=by have h1:=ed l ai 21 1000 h hl;have h2:=Q3 (k:=l.length) (by omega);unfold rowB;rw[az];omega
theorem EG {l:List (List Int)}(hl:l.length<=1000)(h:∀s∈l,s.length<=1000/\∀n∈s,(ai n).length<=21):(jT l).length<=21021021:=by have h1:=ed l rowB 21021 1000 (fun s hs=>yH (h s hs).1 (h s hs).2) hl;have h2:=Q3 (k:=l.length) (by omega);unfold jT;rw[az];omega
theorem Rk {l:List Ins}(hl:l.length<=1000)(h:mg l):(eU l).length<=42021:=by
 have h1:=ed l mr 42 1000 (fun i hi=>by
  obtain⟨a,b,c⟩:=h i hi;have h1:=nH i.op (by omega);have h2:=jh c;unfold mr;rw[az];omega) hl
 have h2:=Q3 (k:=l.length) (by omega);unfold eU;rw[az];omega
theorem Bo {s:B}(h:nameB s=true):(oN s).length<=38:=by have h1:=ul h;have h2:=Q3 (k:=s.length) (by omega);unfold oN;simp only[az,ay,ln];omega
theorem iC {α:Type}(l:List α)(f:α->B)(k:Nat)(hl:l.length<=1000)(h:∀x∈l,(f x).length<=k):(ai (l.length:Int)++l.flatMap f).length<=1000*k+21:=by have h1:=ed l f k 1000 h hl;have h2:=Q3 (k:=l.length) (by omega);rw[az];omega
structure apU (g:anP):Prop where
 pts:g.points.length<=1000
 ends:g.ends.length<=1000
 parts:g.parts.length<=1000
 anch:g.anchors.length<=1000
 an1:g.deltas.length<=1000
 hint:g.hint.length<=1000
structure apY (r:aom):Prop where
 rows:r.back.length<=1000/\r.in'.length<=1000/\r.ahead.length<=1000
 outs:r.out.length<=1000/\r.calls.length<=1000
structure ap2 (f:Fnt):Prop where
 anL:f.anL.length<=1000/\∀g∈f.anL,apU g
 chars:f.chars.length<=1000
 anM:f.anM.length<=1000/\∀l∈f.anM,l.rules.length<=1000/\∀r∈l.rules,apY r
 an3:f.features.length<=1000/\∀x∈f.features,x.anM.length<=1000
 anR:f.anR.length<=1000
 regs:f.regions.length<=1000/\∀r∈f.regions,r.anT.length<=1000
 funcs:f.funcs.length<=1000/\∀p∈f.funcs,p.length<=1000
 cvt:f.cvt.length<=1000
theorem SmF.cap {f:Fnt}(h:SmF f):ap2 f:=
 {anL:=⟨by have:=h.anL.1;omega,fun g hg=>by have:=h.anL.2 g hg;exact⟨by have:=this.pts;omega,by have:=this.ends;omega,by have:=this.parts;omega,by have:=this.anch;omega,by have:=this.an1;omega,by have:=this.hint;omega⟩⟩
  chars:=by have:=h.chars;omega
  anM:=⟨by have:=h.anM.1;omega,fun l hl=>⟨by have:=(h.anM.2 l hl).1;omega,fun r hr=>by have:=(h.anM.2 l hl).2 r hr;exact⟨⟨by have:=this.rows;omega,by have:=this.rows;omega,by have:=this.rows;omega⟩,⟨by have:=this.outs;omega,by have:=this.outs;omega⟩⟩⟩⟩
  an3:=⟨by have:=h.an3.1;omega,fun x hx=>by have:=h.an3.2 x hx;omega⟩
  anR:=by have:=h.anR;omega
  regs:=⟨by have:=h.regs.1;omega,fun x hx=>by have:=h.regs.2 x hx;omega⟩
  funcs:=⟨by have:=h.funcs.1;omega,fun x hx=>by have:=h.funcs.2 x hx;omega⟩
  cvt:=by have:=h.cvt;omega}
theorem Xo {n:Nat}{g:anP}(hn:n<=1000)(h:OkG n g)(hc:apU g):(dS g).length<=400000:=by
 have h1:=Bo h.name;have h2:=jh h.adv;have h3:=ww g.mark;have h4:=iC g.points oU 44 hc.pts (fun p hp=>by
  have a:=jh (h.pts p hp).1;have b:=jh (h.pts p hp).2;have c:=ww p.on;unfold oU;simp only[az];omega)
 have he:∀(es:List Int) fr len,len<=1000->lW fr es len->∀e∈es,(ai e).length<=21:=by
  intro es;induction es with
  |nil=>intro fr len _ _ e he;simp at he
  |cons x xs ih=>
   intro fr len hl hok e he;obtain⟨a,b,c⟩:=hok;rw[aqx] at he;rcases he with rfl|he
   ·exact nH _ (by omega)
   exact ih _ _ hl c e he
 have h5:=yH hc.ends (he g.ends 0 _ hc.pts h.ends);have h6:=iC g.parts iP 63 hc.parts (fun p hp=>by
  have:=h.parts p hp;have a:=Xd hn this.1;have b:=jh this.2.1;have c:=jh this.2.2;unfold iP;simp only[az];omega)
 have h7:=iC g.anchors iJ 84 hc.anch (fun p hp=>by
  have:=h.anch p hp;have a:=nH p.kind (by omega);have b:=jh this.2.2.1;have c:=jh this.2.2.2.1;have d:=jh this.2.2.2.2;unfold iJ;simp only[az];omega)
 have h8:=iC g.deltas kz 84 hc.an1 (fun p hp=>by
  have:=h.an1 p hp;have a:=jh this.1;have b:=jh this.2.1;have c:=jh this.2.2.1;have d:=jh this.2.2.2;unfold kz;simp only[az];omega)
 have h9:=Rk hc.hint h.hint;unfold dS Vx Gg FK Ou;simp only[az] at*
 omega
theorem Yo {n:Nat}{k:Int}{r:aom}(hn:n<=1000)(h:OkR n k r)(hc:apY r):(gX r).length<=64000000:=by
 have hs:∀s,Pq n s->s.length<=1000/\∀x∈s,(ai x).length<=21:=fun s hs=>⟨by have:=Ub hs;omega,fun x hx=>Xd hn (hs.2 x hx)⟩
 have h1:=EG hc.rows.1 (fun s hs'=>hs s (h.back s hs'));have h2:=EG hc.rows.2.1 (fun s hs'=>hs s (h.in' s hs'));have h3:=EG hc.rows.2.2 (fun s hs'=>hs s (h.ahead s hs'));have h4:=yH hc.outs.1 (fun x hx=>Xd hn (h.out x hx));have h5:=iC r.calls iK 42 hc.outs.2 (fun c hc'=>by
  have a:=jh (h.calls c hc').1;have b:=jh (h.calls c hc').2;unfold iK;simp only[az];omega)
 have h6:=jh h.x;unfold gX CW;simp only[az] at*
 omega
theorem YD {f:Fnt}(h:aoR f)(hc:ap2 f):(jO f).length<=100000000000000:=by
 have h1:=jh h.unit;have h2:=iC f.anL dS 400000 hc.anL.1 (fun g hg=>Xo h.few (h.anL g hg) (hc.anL.2 g hg));have h3:=iC f.chars jZ 42 hc.chars (fun c hc'=>by
  have a:=jh (h.chars c hc').1;have b:=Xd h.few (h.chars c hc').2;unfold jZ;simp only[az];omega)
 have h4:=iC f.anM fP 64000000044 hc.anM.1 (fun l hl=>by
  have a:=nH l.kind (by have:=h.anM l hl;omega);have b:=ww l.aol;have c:=iC l.rules gX 64000000 (hc.anM.2 l hl).1 (fun r hr=>Yo h.few ((h.anM l hl).2.2 r hr) ((hc.anM.2 l hl).2 r hr));unfold fP Gm;simp only[az] at*
  omega)
 have h5:=iC f.features iL 21059 hc.an3.1 (fun x hx=>by
  have a:=Bo (h.an3 x hx).1;have b:=yH (hc.an3.2 x hx) (fun n hn=>jh ((h.an3 x hx).2 n hn));unfold iL;simp only[az];omega)
 have h6:=iC f.anR iM 101 hc.anR (fun x hx=>by
  obtain⟨a,b,c,d⟩:=h.anR x hx;have a:=Bo a;have b:=jh b;have c:=jh c;have d:=jh d;unfold iM;simp only[az];omega)
 have h7:=iC f.regions lF 63021 hc.regs.1 (fun x hx=>by
  have:=iC x.anT jl 63 (hc.regs.2 x hx) (fun t ht=>by
   obtain⟨a,b,c⟩:=h.regs x hx t ht;have a:=jh a;have b:=jh b;have c:=jh c;unfold jl;simp only[az];omega)
  unfold lF Dp;exact this)
 have h8:=iC f.funcs eU 42021 hc.funcs.1 (fun p hp=>Rk (hc.funcs.2 p hp) (h.funcs p hp));have h9:=yH hc.cvt (fun n hn=>jh (h.cvt n hn));unfold jO Eb Oi GR Ib Ov Oq Hl;simp only[az] at*
 omega
theorem zO {w:World}{l:List (String×DataW Unit)}(h:laidMet Tryz.prog l w)
  (m1:("fleuron/parse.opNames",Rows.laid_fleuron_parse_opNames)∈l) (m2:("fleuron/parse.anchorNames",Rows.laid_fleuron_parse_anchorNames)∈l) (m3:("fleuron/parse.lookupNames",Rows.laid_fleuron_parse_lookupNames)∈l):aoi w∧nT≤w.heap.size:=
 ⟨⟨BQ (vT h m1) (by kernel_rfl) (by kernel_rfl) Tryz.underlying144 Tryz.underlying9 (by kernel_rfl) (by kernel_rfl),
 BQ (vT h m2) (by kernel_rfl) (by kernel_rfl) Tryz.underlying205 Tryz.underlying9 (by kernel_rfl) (by kernel_rfl),
 BQ (vT h m3) (by kernel_rfl) (by kernel_rfl) Tryz.underlying206 Tryz.underlying9 (by kernel_rfl) (by kernel_rfl)⟩,
 afE (vT h m3) (by kernel_rfl)⟩
end Go.Proofs.YtkijckccfookeaaGreatDoor
