/- Lemmas. -/
import Derived.Test.YtkijckccfookeaaGreatDoorV07
set_option linter.unusedVariables false
set_option linter.unusedSimpArgs false
set_option maxRecDepth 100000
set_option maxHeartbeats 32000000
namespace Go.Proofs.YtkijckccfookeaaGreatDoor
open Go.RowKit
section
def aof {α:Type}(R:Rel α)(size:Nat)(w:World)(S:Bs)(r:RV)(xs:List α):Prop:=r.n=xs.length/\Fl R size w S r.xs xs
theorem aof.tr {α:Type}{R:Rel α}(ok:R.Ok){size:Nat}{w w':World}{rv rv':Rows}{r:RV}{xs:List α}(h:aof R size w (Fz w rv) r xs)(t:Tr w rv w' rv'):aof R size w' (Fz w' rv') r xs:=⟨h.1,t.fl ok h.2⟩
theorem aof.nil {α:Type}(R:Rel α)(size:Nat)(w:World)(S:Bs):aof R size w S RV.nil []:=⟨rfl,Fl.nil⟩
def GlD (w:World)(S:Bs)(r0 r8 r9 r10 r11 r12 r13:RV)(gs:List anP):Prop:=
 r0.n=gs.length/\((gs=[]/\r0.xs=[])\/∃init g ci,gs=init++[g]/\
  r0.xs=ci++[.string ⟨g.name.toArray⟩,.int .i64 g.advance,.bool g.mark,r8.v,r9.v,r10.v,r11.v,r12.v,r13.v]/\I64 g.advance/\Fl anS 9 w S ci init/\
  aof PtR 3 w S r8 g.points/\aof anO 1 w S r9 g.ends/\aof aog 3 w S r10 g.parts/\aof an2 4 w S r11 g.anchors/\aof an6 4 w S r12 g.deltas/\aof an5 2 w S r13 g.hint)
theorem GlD.tr {w w':World}{rv rv':Rows}{r0 r8 r9 r10 r11 r12 r13:RV}{gs:List anP}(h:GlD w (Fz w rv) r0 r8 r9 r10 r11 r12 r13 gs)(t:Tr w rv w' rv'):GlD w' (Fz w' rv') r0 r8 r9 r10 r11 r12 r13 gs:=by
 refine⟨h.1,?_⟩;rcases h.2 with h|⟨init,g,ci,h1,h2,h3,h4,h5,h6,h7,h8,h9,h10⟩
 ·exact .inl h
 exact .inr ⟨init,g,ci,h1,h2,h3,t.fl anS.ok h4,h5.tr PtR.ok t,h6.tr anO.ok t,h7.tr aog.ok t,h8.tr an2.ok t,h9.tr an6.ok t,h10.tr an5.ok t⟩
def LkD (w:World)(S:Bs)(r2 r14:RV)(ls:List Lookup):Prop:=r2.n=ls.length/\((ls=[]/\r2.xs=[])\/∃init l ci,ls=init++[l]/\r2.xs=ci++[.int .i64 l.kind,.bool l.aol,r14.v]/\I64 l.kind/\Fl anV 3 w S ci init/\aof an7 6 w S r14 l.rules)
theorem LkD.tr {w w':World}{rv rv':Rows}{r2 r14:RV}{ls:List Lookup}(h:LkD w (Fz w rv) r2 r14 ls)(t:Tr w rv w' rv'):LkD w' (Fz w' rv') r2 r14 ls:=by
 refine⟨h.1,?_⟩;rcases h.2 with h|⟨init,l,ci,h1,h2,h3,h4,h5⟩
 ·exact .inl h
 exact .inr ⟨init,l,ci,h1,h2,h3,t.fl anV.ok h4,h5.tr an7.ok t⟩
def aoF (w:World)(S:Bs)(cm:Nat)(cls:List (B×List Int)):Prop:=∃f,an0 mD w cm f/\∀t,(cls.lookup t=none/\f t=none)\/∃l A c,cls.lookup t=some l/\f t=some (.slice A l.length c)/\Sl anO 1 w S A l/\l.length<=2000
structure FD (w:World)(S:Bs)(rv:Rows)(f:Fnt):Prop where
 unit:I64 f.unit
 gly:GlD w S (rv 0) (rv 8) (rv 9) (rv 10) (rv 11) (rv 12) (rv 13) f.anL
 chr:aof aop 2 w S (rv 1) f.chars
 lks:LkD w S (rv 2) (rv 14) f.anM
 fts:aof anU 2 w S (rv 3) f.features
 axs:aof aoh 4 w S (rv 4) f.anR
 rgs:aof anY 1 w S (rv 5) f.regions
 fns:aof aod 1 w S (rv 6) f.funcs
 cvt:aof anO 1 w S (rv 7) f.cvt
theorem FD.tr {w w':World}{rv rv':Rows}{f:Fnt}(h:FD w (Fz w rv) rv f)(t:Tr w rv w' rv'):FD w' (Fz w' rv') rv f:=⟨h.unit,h.gly.tr t,h.chr.tr aop.ok t,h.lks.tr t,h.fts.tr anU.ok t,h.axs.tr aoh.ok t,h.rgs.tr anY.ok t,h.fns.tr aod.ok t,h.cvt.tr anO.ok t⟩
def dW (s:PS)(rv:Rows)(gm cm:Nat):Array Value:=#[.int .i64 s.f.unit,(rv 0).v,(rv 1).v,(rv 2).v,(rv 3).v,(rv 4).v,(rv 5).v,(rv 6).v,(rv 7).v,.bool s.unit,.map (some gm),.map (some cm)]
abbrev jq:TypeId:=116
abbrev QA:TypeId:=194
structure PSt (w:World)(Bd p gm cm:Nat)(gl:Gl)(s:PS)(rv:Rows)(K:Nat):Prop where
 par:Bk w p jq (dW s rv gm cm)
 live:Live w Bd rv
 fnt:FD w (Fz w rv) rv s.f
 gmp:an0 mD w gm (fun t=>(gl.lookup t).map fun n=> .int .i64 (n:Nat))
 glI:∀t n,gl.lookup t=some n->n<=1000000000
 cls:aoF w (Fz w rv) cm s.cls
 few:∀j,j<15->(rv j).n<=K
 low:Bd<=p/\Bd<=gm/\Bd<=cm/\gm≠cm
theorem an0.aoO {κ :Type}{E:Emb κ}{w:World}{b:Nat}{f: κ ->Option Value}(h:an0 E w b f){t:TypeId}{cs:Array Value}(hb:Bk w b t cs):False:=by obtain⟨es,clock,h1⟩:=h.isMap;unfold Bk at hb;rw[h1] at hb;cases hb
theorem Bk.keep {w w':World}{g:Nat}{t:TypeId}{cs:Array Value}(h:Bk w g t cs)(hk:w'.heap[g]? =w.heap[g]?):Bk w' g t cs:=hk.trans h
theorem aoF.tr {w w':World}{rv rv':Rows}{cm:Nat}{cls:List (B×List Int)}(h:aoF w (Fz w rv) cm cls)(t:Tr w rv w' rv')(hk:w'.heap[cm]? =w.heap[cm]?):aoF w' (Fz w' rv') cm cls:=by
 obtain⟨f,h1,h2⟩:=h;refine⟨f,h1.keep hk,fun x=> ?_⟩;rcases h2 x with h|⟨l,A,c,e1,e2,e3,e4⟩
 ·exact .inl h
 exact .inr ⟨l,A,c,e1,e2,t.sl anO.ok e3,e4⟩
theorem aoF.lt {w:World}{S:Bs}{cm:Nat}{cls:List (B×List Int)}(h:aoF w S cm cls):cm<w.heap.size:=by obtain⟨f,h1,h2⟩:=h;exact h1.lt
section
variable {w w':World} {Bd p gm cm:Nat} {gl:Gl} {s:PS} {rv:Rows} {K:Nat}
theorem PSt.mono (h:PSt w Bd p gm cm gl s rv K){K':Nat}(hK:K<=K'):PSt w Bd p gm cm gl s rv K':= {h with few:=fun j hj=>nt (h.few j hj) hK}
theorem PSt.below (h:PSt w Bd p gm cm gl s rv K)(hb:Below w.heap.size w w'):PSt w' Bd p gm cm gl s rv K:={par:=h.par.keep (hb.block p h.par.lt),live:=h.live.below hb,fnt:=h.fnt.tr (Tr.below hb),gmp:=h.gmp.below hb,glI:=h.glI,cls:=h.cls.tr (Tr.below hb) (hb.block cm h.cls.lt),few:=h.few,low:=h.low}
theorem PSt.other (h:PSt w Bd p gm cm gl s rv K){row:Nat}(hg:w.grownBy w' (some row)){t:TypeId}{cs:Array Value}(hr:Bk w row t cs)(h1:lK t=false)(h2:t≠jq):PSt w' Bd p gm cm gl s rv K:=by
 have hr':∀g,some row=some g->∀t cs,Bk w g t cs->lK t=false:=fun g e t' cs' hb=>by
  injection e with e
  subst e;rw[(bY hb hr).1];exact h1
 have ht:Tr w rv w' rv:=Tr.other hg hr';refine {par:=h.par.keep (hg.block p h.par.lt fun e=> ?_),live:=h.live.other hg hr',fnt:=h.fnt.tr ht,gmp:=h.gmp.grown hg fun e=> ?_,glI:=h.glI,cls:=h.cls.tr ht (hg.block cm h.cls.lt fun e=> ?_),few:=h.few,low:=h.low}
 ·injection e with e
  subst e;exact h2 (bY hr h.par).1
 ·injection e with e
  subst e;exact h.gmp.aoO hr
 injection e with e
 subst e;obtain⟨f,h1,h2⟩:=h.cls;exact h1.aoO hr
theorem PSt.drewN (h:PSt w Bd p gm cm gl s rv K)(n:Nat):PSt (w.drewN n) Bd p gm cm gl s rv K:=h.below ⟨rfl,rfl,rfl,ag _,fun _ _=>rfl⟩
theorem PSt.row_ne (h:PSt w Bd p gm cm gl s rv K){i:Nat}(hi:i<15):(rv i).v.ownBlock≠some p/\(rv i).v.ownBlock≠some gm/\(rv i).v.ownBlock≠some cm:=by
 refine⟨fun e=> ?_,fun e=> ?_,fun e=> ?_⟩<;>obtain⟨cur,hb⟩:=bC (h.live.own i hi) e
 ·have:=(bY hb h.par).1;have hd:=wu i;rw[this] at hd
  revert hd
  decide
 ·exact h.gmp.aoO hb
 obtain⟨f,h1,h2⟩:=h.cls;exact h1.aoO hb
theorem PSt.row (h:PSt w Bd p gm cm gl s rv K){i:Nat}(hi:i<15){r:RV}(hg:w.grownBy w' (rv i).v.ownBlock)(ho:w'.ownsRow Bd (kT i) (kS i) r.v r.n r.xs)
  (hl:r.v.ownBlock=(rv i).v.ownBlock\/∀g,r.v.ownBlock=some g->w.heap.size<=g):
  Bk w' p jq (dW s rv gm cm)/\Live w' Bd (upd rv i r)/\Tr w rv w' (upd rv i r)/\an0 mD w' gm (fun t=>(gl.lookup t).map fun n=> .int .i64 (n:Nat))/\aoF w' (Fz w' (upd rv i r)) cm s.cls:=by
 obtain⟨n1,n2,n3⟩:=h.row_ne hi;have ht:=Tr.row (rv:=rv) hi hg hl;exact⟨h.par.keep (hg.block p h.par.lt (fun e=>n1 e.symm)),h.live.row hi hg ho hl,ht,h.gmp.grown hg (fun e=>n2 e.symm),h.cls.tr ht (hg.block cm h.cls.lt (fun e=>n3 e.symm))⟩
theorem PSt.apg {s':PS}{rv':Rows}{cs:Array Value}(hp:Bk w p jq cs)(hl:Live w Bd rv')(hf:FD w (Fz w rv') rv' s'.f)(hm:an0 mD w gm (fun t=>(gl.lookup t).map fun n=> .int .i64 (n:Nat)))(hi:∀t n,gl.lookup t=some n->n<=1000000000)
  (hc:aoF w (Fz w rv') cm s'.cls) (hw:∀j,j<15->(rv' j).n<=K) (hB:Bd<=p/\Bd<=gm/\Bd<=cm/\gm≠cm) (j:Nat) (u:Value) (hcs:cs.setIfInBounds j u=dW s' rv' gm cm):PSt (w.setCell ⟨p,j,none⟩ u) Bd p gm cm gl s' rv' K:=by
 have hg:=dF w ⟨p,j,none⟩ u;have hr':∀g,some p=some g->∀t cs,Bk w g t cs->lK t=false:=fun g e t' cs' hb=>by
  injection e with e
  subst e;rw[(bY hb hp).1];decide
 have ht:Tr w rv' (w.setCell ⟨p,j,none⟩ u) rv':=Tr.other hg hr';refine {par:= ?_,live:=hl.other hg hr',fnt:=hf.tr ht,gmp:=hm.grown hg fun e=> ?_,glI:=hi,cls:=hc.tr ht (hg.block cm hc.lt fun e=> ?_),few:=hw,low:=hB}
 ·rw[<-hcs];exact hp.set j u
 ·injection e with e
  subst e;exact hm.aoO hp
 injection e with e
 subst e;obtain⟨f,h1,h2⟩:=hc;exact h1.aoO hp
end
end
section
def N9 (n:Int):Prop:= -999999999<=n/\n<=999999999
def mg (p:List Ins):Prop:=∀i∈p,1<=i.op/\i.op<=39/\N9 i.a
def In (n:Nat)(x:Int):Prop:=0<=x/\x<n
def lW:Nat->List Int->Nat->Prop
 |fr,[],len=>fr=len
 |fr,e::es,len=>(fr:Int)<=e/\e<len/\lW (e.toNat+1) es len
structure OkG (n:Nat)(g:anP):Prop where
 name:nameB g.name=true
 adv:N9 g.advance
 pts:∀p∈g.points,N9 p.x/\N9 p.y
 ends:lW 0 g.ends g.points.length
 parts:∀p∈g.parts,In n p.anX/\N9 p.x/\N9 p.y
 anch:∀a∈g.anchors,1<=a.kind/\a.kind<=4/\N9 a.cls/\N9 a.x/\N9 a.y
 an1:∀d∈g.deltas,N9 d.region/\N9 d.point/\N9 d.x/\N9 d.y
 hint:mg g.hint
def Pq (n:Nat)(s:List Int):Prop:=s.Pairwise (· < ·)/\∀x∈s,In n x
structure OkR (n:Nat)(kind:Int)(r:aom):Prop where
 back:∀s∈r.back,Pq n s
 in':∀s∈r.in',Pq n s
 ahead:∀s∈r.ahead,Pq n s
 out:∀x∈r.out,In n x
 calls:∀c∈r.calls,N9 c.at'/\N9 c.lookup
 x:N9 r.x
 one:kind=1\/kind=5->∃s,r.in'=[s]/\r.out.length=s.length
 outs:kind=4\/6<=kind->r.out=[]
 noC:kind≠4->r.calls=[]
 noX:kind≠6->r.x=0
structure aoR (f:Fnt):Prop where
 unit:N9 f.unit
 anR:∀a∈f.anR,nameB a.name=true/\N9 a.min'/\N9 a.aou/\N9 a.max'
 regs:∀r∈f.regions,∀t∈r.anT,N9 t.start/\N9 t.peak/\N9 t.stop
 cvt:∀n∈f.cvt,N9 n
 funcs:∀p∈f.funcs,mg p
 apart:(f.anL.map (·.name)).Nodup
 anL:∀g∈f.anL,OkG f.anL.length g
 chars:∀c∈f.chars,N9 c.rune/\In f.anL.length c.anX
 anM:∀l∈f.anM,1<=l.kind/\l.kind<=8/\∀r∈l.rules,OkR f.anL.length l.kind r
 an3:∀x∈f.features,nameB x.name=true/\∀n∈x.anM,N9 n
 few:f.anL.length<=1000
def O1 (c:UInt8):Bool:=gG c||c==45
theorem vJ (u:Nat):∀c∈Lib.decDigits u,gG c=true:=by
 induction u using Nat.strongRecOn with
 |_ u ih=>
  rw[Lib.decDigits];split
  ·intro c hc;simp only[aql] at hc;subst hc;rw[mM,UInt8.toNat_ofNat'];omega
  intro c hc;rw[aqp,aql] at hc;rcases hc with hc|rfl
  ·exact ih (u / 10) (by omega) c hc
  rw[mM,UInt8.toNat_ofNat'];omega
theorem UL (u:Nat):nN (Lib.decDigits u)=u:=by
 induction u using Nat.strongRecOn with
 |_ u ih=>
  rw[Lib.decDigits];split
  ·have e:[UInt8.ofNat (48+u)]=[]++[UInt8.ofNat (48+u)]:=rfl;rw[e,yj,UInt8.toNat_ofNat'];have:nN []=0:=rfl;omega
  rw[yj,ih (u / 10) (by omega),UInt8.toNat_ofNat'];omega
theorem UW (k:Nat):∀u,u<10 ^ (k+1)->Lib.nDigits u<=k+1:=by
 induction k with
 |zero=>intro u hu;rw[Lib.nDigits_small (by simpa using hu)];exact ag _
 |succ k ih=>
  intro u hu;by_cases h:u<10
  ·rw[Lib.nDigits_small h];omega
  rw[Lib.nDigits_big h];have:=ih (u / 10) (by rw[Nat.pow_succ] at hu;omega);omega
theorem DJ (u:Nat)(h:u<=999999999):1<=(Lib.decDigits u).length/\(Lib.decDigits u).length<=9:=by rw[Lib.decDigits_length];exact⟨Lib.nDigits_pos u,UW 8 u (by show u<1000000000;omega)⟩
theorem UV (u:Nat)(h:u<=999999999):ug (Lib.decDigits u)=true:=Ry _ (vJ u) (DJ u h).1 (DJ u h).2
theorem Q8 (u:Nat):∃c r,Lib.decDigits u=c::r/\c≠45:=by
 cases h:Lib.decDigits u with
 |nil=>have:=Lib.decDigits_length u;have:=Lib.nDigits_pos u;rw[h] at*;simp at*;omega
 |cons c r=>
  refine⟨c,r,rfl,fun e=> ?_⟩;have:=vJ u c (by rw[h];simp);rw[e] at this
  revert this
  decide
theorem eP (n:Int)(h:N9 n):vW (aN n)=true/\aI (aN n)=n:=by
 unfold N9 at h;unfold aN Lib.itoa;split
 ·have e:gJ (45::Lib.decDigits n.natAbs)=Lib.decDigits n.natAbs:=rfl;have e2:signed (45::Lib.decDigits n.natAbs)=true:=rfl;have e3:=UV n.natAbs (by omega);refine⟨by rw[vW,e,e3],?_⟩;rw[aI,e,e2,if_pos e3,if_pos rfl,UL];omega
 obtain⟨c,r,h1,h2⟩:=Q8 n.toNat;have e:gJ (Lib.decDigits n.toNat)=Lib.decDigits n.toNat/\signed (Lib.decDigits n.toNat)=false:=by
  rcases wP (Lib.decDigits n.toNat) with⟨r',h,_⟩|⟨h3,h4,_⟩
  ·rw[h1] at h;injection h with h _
   exact absurd h h2
  exact⟨h3,h4⟩
 have e3:=UV n.toNat (by omega);refine⟨by rw[vW,e.1,e3],?_⟩;rw[aI,e.1,e.2,if_pos e3,UL];simp;omega
theorem qF (n:Int):∀c∈aN n,O1 c=true:=by
 intro c hc;unfold aN Lib.itoa at hc;split at hc
 ·rw[aqx] at hc;rcases hc with rfl|hc
  ·decide
  simp[O1,vJ _ c hc]
 simp[O1,vJ _ c hc]
theorem ahO (n:Int):aN n≠[]:=by
 unfold aN Lib.itoa;split
 ·simp
 obtain⟨c,r,h1,h2⟩:=Q8 n.toNat;rw[h1];simp
theorem iR {c:UInt8}(h:O1 c=true):zu c=true/\c≠58/\c≠44/\c≠42/\c≠64/\c≠47/\c≠62/\c≠91/\c≠93:=by
 simp only[O1,Bool.or_eq_true,mM,beq_iff_eq] at h;refine⟨?_,?_,?_,?_,?_,?_,?_,?_,?_⟩
 ·simp only[zu,aqK,bne_iff_ne,ne_eq];refine⟨⟨⟨?_,?_⟩,?_⟩,?_⟩<;>(rintro rfl;revert h;decide)
 all_goals (rintro rfl;revert h;decide)
theorem pJ (n:Int):cO (aN n)=true:=by simp only[cO,aqK,Bool.not_eq_true',List.isEmpty_eq_false_iff,aqW];exact⟨ahO n,fun c hc=>(iR (qF n c hc)).1⟩
theorem gU (n:Int)(h:N9 n)(e:Int):aT e (aN n)=e:=by rw[aT,if_neg (by rw[(eP n h).1];simp)]
theorem wS (l:List Int)(h:∀n∈l,N9 n)(e:Int):fB e (l.map aN)=e:=by
 induction l generalizing e with
 |nil=>rfl
 |cons n r ih=>have:fB e ((n::r).map aN)=fB (aT e (aN n)) (r.map aN):=rfl;rw[this,gU n (h n (by simp)),ih (fun m hm=>h m (by simp[hm]))]
theorem Fg (l:List Int)(h:∀n∈l,N9 n):(l.map aN).map aI=l:=by
 rw[aq5]
 conv=>rhs;rw[<-List.map_id l]
 exact List.map_congr_left (fun n hn=>(eP n (h n hn)).2)
theorem ZM {s:B}(h:nameB s=true):∀c∈s,zu c=true/\c≠58/\c≠44/\c≠42/\c≠64/\c≠47/\c≠62/\c≠91/\c≠93:=by
 intro c hc;obtain⟨k,hk⟩:=aqG.1 hc;have ha:nameAt k c=true:=by rw[<-Bool.not_eq_false];intro hf;rw[EL s k c hk hf] at h;cases h
 rw[Ak] at ha;refine⟨?_,?_,?_,?_,?_,?_,?_,?_,?_⟩
 ·simp only[zu,aqK,bne_iff_ne,ne_eq];refine⟨⟨⟨?_,?_⟩,?_⟩,?_⟩<;>(rintro rfl;simp at ha)
 all_goals (rintro rfl;simp at ha)
theorem aeD {s:B}(h:nameB s=true):s≠[]:=by
 rintro rfl
 revert h
 decide
theorem qB {s:B}(h:nameB s=true):cO s=true:=by simp only[cO,aqK,Bool.not_eq_true',List.isEmpty_eq_false_iff,aqW];exact⟨aeD h,fun c hc=>(ZM h c hc).1⟩
theorem Fa {s:B}(h:nameB s=true)(e:Int):bI e s=e:=by rw[bI,if_neg (by rw[h];simp)]
theorem Pi {c:UInt8}{a b:B}(h:∀d∈a,d≠c):df c (a++c::b)=a/\dM c (a++c::b)=b:=by
 induction a with
 |nil=>simp[df,dM]
 |cons d r ih=>
  obtain⟨i1,i2⟩:=ih (fun x hx=>h x (by simp[hx]));have hd:(d !=c)=true:=by simpa using h d (by simp)
  constructor
  ·show List.takeWhile (· !=c) (d::(r++c::b))=_;rw[List.takeWhile_cons_of_pos (p:=fun x=>x !=c) hd];exact congrArg _ i1
  show(List.dropWhile (· !=c) (d::(r++c::b))).drop 1=_;rw[List.dropWhile_cons_of_pos (p:=fun x=>x !=c) hd];exact i2
theorem YZ {c:UInt8}{a:B}(h:∀d∈a,d≠c):df c a=a/\dM c a=[]:=by
 induction a with
 |nil=>simp[df,dM]
 |cons d r ih=>
  obtain⟨i1,i2⟩:=ih (fun x hx=>h x (by simp[hx]));have hd:(d !=c)=true:=by simpa using h d (by simp)
  constructor
  ·show List.takeWhile (· !=c) (d::r)=_;rw[List.takeWhile_cons_of_pos (p:=fun x=>x !=c) hd];exact congrArg _ i1
  show(List.dropWhile (· !=c) (d::r)).drop 1=_;rw[List.dropWhile_cons_of_pos (p:=fun x=>x !=c) hd];exact i2
theorem count_none {c:UInt8}{a:B}(h:∀d∈a,d≠c):a.count c=0:=List.count_eq_zero.2 (fun hm=>h c hm rfl)
theorem AU {c:UInt8}{a:B}(h:∀d∈a,d≠c):a.contains c=false:=by rw[<-Bool.not_eq_true,List.contains_iff_mem];exact fun hm=>h c hm rfl
theorem O8:∀k:Fin 39,∃s,opNames[k.val]? =some s/\qW s=(k.val:Int)+1/\cO s=true/\(∀c∈s,c≠58/\c≠44/\c≠42/\c≠47/\c≠62):=by decide+kernel
theorem Zf (n:Int)(h1:1<=n)(h2:n<=39):qW (tH n)=n/\cO (tH n)=true/\∀c∈tH n,c≠58/\c≠44/\c≠42/\c≠47/\c≠62:=by
 obtain⟨s,e1,e2,e3,e4⟩:=O8 ⟨(n - 1).toNat,by omega⟩;have:tH n=s:=by unfold tH pick;rw[if_neg (by omega)];simp only at e1;rw[e1];rfl
 rw[this];simp only at e2;exact⟨by omega,e3,e4⟩
theorem abj (i:Ins)(h:1<=i.op/\i.op<=39/\N9 i.a)(e:Int):rC e (ku i)=e/\jP (ku i)=i/\(ku i).count 58<=1/\cO (ku i)=true:=by
 obtain⟨h1,h2,h3⟩:=h;obtain⟨f1,f2,f3⟩:=Zf i.op h1 h2;have hc:∀d∈tH i.op,d≠58:=fun d hd=>(f3 d hd).1
 by_cases h0:i.a=0
 ·have e1:ku i=tH i.op:=by simp[ku,h0]
  obtain⟨c1,c2⟩:=YZ hc;rw[e1,rC,jP,AU hc,c1,f1,count_none hc];refine⟨?_,?_,by omega,f2⟩
  ·simp;omega
  cases i
  simp_all
 have e1:ku i=tH i.op++58::aN i.a:=by simp[ku,h0]
 obtain⟨c1,c2⟩:=Pi (b:=aN i.a) hc;have hm:(tH i.op++58::aN i.a).contains 58=true:=by simp
 have hn:∀d∈aN i.a,d≠58:=fun d hd=>(iR (qF _ d hd)).2.1
 rw[e1,rC,jP,if_pos hm,if_pos hm,c1,c2,f1,(eP i.a h3).2];refine⟨?_,?_,?_,?_⟩
 ·rw[if_neg (by omega),gU _ h3]
 ·cases i;rfl
 ·rw[List.count_append,List.count_cons,count_none hc,count_none hn];simp
 simp only[cO,aqK,Bool.not_eq_true',List.isEmpty_eq_false_iff,aqW,aqp,aqx];refine⟨by simp,fun c hc=> ?_⟩;rcases hc with hc|rfl|hc
 ·exact yF f2 c hc
 ·decide
 exact(iR (qF _ c hc)).1
theorem BR (p:List Ins)(h:mg p)(e:Int):(p.map ku).foldl rC e=e/\(p.map ku).map jP=p/\yg (p.map ku)=true/\∀w∈p.map ku,cO w=true:=by
 induction p generalizing e with
 |nil=>exact⟨rfl,rfl,rfl,by simp⟩
 |cons i r ih=>
  obtain⟨a1,a2,a3,a4⟩:=abj i (h i (by simp)) e;obtain⟨b1,b2,b3,b4⟩:=ih (fun j hj=>h j (by simp[hj])) e;refine⟨?_,?_,?_,?_⟩
  ·rw[aqv,aqN,a1,b1]
  ·rw[aqv,aqv,a2,b2]
  ·unfold yg at b3 ⊢;rw[aqv,List.all_cons,b3];simpa using a3
  intro w hw;rw[aqv,aqx] at hw;rcases hw with rfl|hw
  ·exact a4
  exact b4 w hw
theorem adO (p:Pt)(h:N9 p.x/\N9 p.y)(e:Int):xG e (ry p)=e/\qJ (ry p)=p/\lV (ry p)=true/\cO (ry p)=true:=by
 obtain⟨h1,h2⟩:=h;have n1:∀d∈aN p.x,d≠44:=fun d hd=>(iR (qF _ d hd)).2.2.1
 have n2:∀d∈aN p.y,d≠44:=fun d hd=>(iR (qF _ d hd)).2.2.1
 have s1:∀d∈aN p.x,d≠42:=fun d hd=>(iR (qF _ d hd)).2.2.2.1
 have s2:∀d∈aN p.y,d≠42:=fun d hd=>(iR (qF _ d hd)).2.2.2.1
 have hs:∀d∈aN p.x++44::aN p.y,d≠42:=by
  intro d hd;rw[aqp,aqx] at hd;rcases hd with hd|rfl|hd
  ·exact s1 d hd
  ·decide
  exact s2 d hd
 obtain⟨c1,c2⟩:=Pi (b:=aN p.y) n1;have hcnt:(aN p.x++44::aN p.y).count 44=1:=by rw[List.count_append,List.count_cons,count_none n1,count_none n2];simp
 have htok:∀c∈aN p.x++44::aN p.y,zu c=true:=by
  intro d hd;rw[aqp,aqx] at hd;rcases hd with hd|rfl|hd
  ·exact(iR (qF _ d hd)).1
  ·decide
  exact(iR (qF _ d hd)).1
 cases hon:p.on with
 |true=>
  have e1:ry p=aN p.x++44::aN p.y:=by simp[ry,hon]
  have hl:(aN p.x++44::aN p.y).getLast? ≠some 42:=fun h=>hs 42 (List.mem_of_getLast? h) rfl
  have hu:dU (aN p.x++44::aN p.y)=aN p.x++44::aN p.y:=by rw[dU,if_neg hl]
  rw[e1,xG,qJ,lV,hu,c1,c2,hcnt,AU hs,gU _ h1,gU _ h2,(eP _ h1).2,(eP _ h2).2];refine⟨rfl,?_,rfl,?_⟩
  ·cases p
   simp_all
  simp only[cO,aqK,Bool.not_eq_true',List.isEmpty_eq_false_iff,aqW];exact⟨by simp,htok⟩
 |false=>
  have e1:ry p=(aN p.x++44::aN p.y)++[42]:=by simp[ry,hon]
  have hl:((aN p.x++44::aN p.y)++[42]).getLast? =some 42:=List.getLast?_concat;have hu:dU ((aN p.x++44::aN p.y)++[42])=aN p.x++44::aN p.y:=by rw[dU,if_pos hl,List.dropLast_concat]
  have hcnt2:((aN p.x++44::aN p.y)++[42]).count 44=1:=by rw[List.count_append,hcnt];rfl
  have hidx:((aN p.x++44::aN p.y)++[42]).idxOf 42=(aN p.x++44::aN p.y).length:=by rw[List.idxOf_append,if_neg (fun hm=>hs 42 hm rfl)];simp
  rw[e1,xG,qJ,lV,hu,c1,c2,hcnt2,hidx,hl,gU _ h1,gU _ h2,(eP _ h1).2,(eP _ h2).2];refine⟨rfl,?_,?_,?_⟩
  ·cases p
   simp_all
  ·simp
  simp only[cO,aqK,Bool.not_eq_true',List.isEmpty_eq_false_iff,aqW,aqp (s:=aN p.x++44::aN p.y),aql];refine⟨by simp,fun c hc=> ?_⟩;rcases hc with hc|rfl
  ·exact htok c hc
  decide
theorem QR (l:List Pt)(h:∀p∈l,N9 p.x/\N9 p.y)(e:Int):(l.map ry).foldl xG e=e/\(l.map ry).map qJ=l/\(l.map ry).all lV=true/\∀w∈l.map ry,cO w=true:=by
 induction l generalizing e with
 |nil=>exact⟨rfl,rfl,rfl,by simp⟩
 |cons p r ih=>
  obtain⟨a1,a2,a3,a4⟩:=adO p (h p (by simp)) e;obtain⟨b1,b2,b3,b4⟩:=ih (fun q hq=>h q (by simp[hq])) e;refine⟨?_,?_,?_,?_⟩
  ·rw[aqv,aqN,a1,b1]
  ·rw[aqv,aqv,a2,b2]
  ·rw[aqv,List.all_cons,b3,a3];rfl
  intro w hw;rw[aqv,aqx] at hw;rcases hw with rfl|hw
  ·exact a4
  exact b4 w hw
def ElT (e t:TypeId)(size:Nat):Prop:=∃i z,Tryz.prog.underlying t=some (.slice e)/\Tryz.prog.info? e=some i/\i.zero=some z/\i.size=size/\z.cells.size=size/\i.bytes<=1000/\0<size
theorem ElT.mk {e t:TypeId}{size:Nat}(ht:Tryz.prog.underlying t=some (.slice e))(h:(Tryz.prog.info? e).map (fun i=>(i.zero.map (fun z=>z.cells.size),i.size,decide (i.bytes<=1000)))=some (some size,size,true))(hs:0<size):ElT e t size:=by obtain⟨i,hi,he⟩:=Option.map_eq_some_iff.1 h;simp only[arb,arh] at he;obtain⟨z,hz,hc⟩:=Option.map_eq_some_iff.1 he.1;exact⟨i,z,ht,hi,hz,he.2.1,hc,he.2.2,hs⟩
theorem iO:ElT 3 22 1:= .mk Tryz.underlying22 (by kernel_rfl) (by decide)
theorem GX:ElT 22 73 1:= .mk Tryz.underlying73 (by kernel_rfl) (by decide)
theorem Ea:ElT 61 57 2:= .mk Tryz.underlying57 (by kernel_rfl) (by decide)
theorem XJ:ElT 57 30 1:= .mk Tryz.underlying30 (by kernel_rfl) (by decide)
theorem ZY:ElT 139 51 3:= .mk Tryz.underlying51 (by kernel_rfl) (by decide)
theorem ZB:ElT 87 54 3:= .mk Tryz.underlying54 (by kernel_rfl) (by decide)
theorem Yr:ElT 89 55 4:= .mk Tryz.underlying55 (by kernel_rfl) (by decide)
theorem Uj:ElT 91 56 4:= .mk Tryz.underlying56 (by kernel_rfl) (by decide)
theorem IV:ElT 59 24 9:= .mk Tryz.underlying24 (by kernel_rfl) (by decide)
theorem Zl:ElT 93 25 2:= .mk Tryz.underlying25 (by kernel_rfl) (by decide)
theorem Qn:ElT 95 74 2:= .mk Tryz.underlying74 (by kernel_rfl) (by decide)
theorem Ph:ElT 76 70 6:= .mk Tryz.underlying70 (by kernel_rfl) (by decide)
theorem QM:ElT 72 26 3:= .mk Tryz.underlying26 (by kernel_rfl) (by decide)
theorem XA:ElT 97 27 2:= .mk Tryz.underlying27 (by kernel_rfl) (by decide)
theorem Xv:ElT 99 28 4:= .mk Tryz.underlying28 (by kernel_rfl) (by decide)
theorem Qy:ElT 104 29 1:= .mk Tryz.underlying29 (by kernel_rfl) (by decide)
theorem ZR:ElT 101 102 3:= .mk Tryz.underlying102 (by kernel_rfl) (by decide)
theorem afx:ElT 124 119 3:= .mk Tryz.underlying119 (by kernel_rfl) (by decide)
abbrev Loc (w:World)(v v':Value):Prop:=v'.ownBlock=v.ownBlock\/∀g,v'.ownBlock=some g->w.heap.size<=g
theorem wH {e t size:Nat}(E:ElT e t size)(ty:TypeId)(w1:World)(base n c:Nat)(A:Option Addr)(xs:List Value)(hown:w1.ownsRow base e size (.slice A n c) n xs)
  (Bd:Nat) (A2:Option Addr) (m c2:Nat) (news:List Value) (hr:Rd w1 Bd A2 m size news) (h1:∀u∈news,u.oneCell'=true) (hn:n+m<=100000000000) (hb:base<=w1.heap.size):
  ∃A' c' w',(Builtin.append_ #[t,t] ty #[.slice A n c,.slice A2 m c2]).run Tryz.prog w1= .ok (.slice A' (n+m) c') w'/\w'.ownsRow base e size (.slice A' (n+m) c') (n+m) (xs++news)/\w1.grownBy w' (Value.slice A n c).ownBlock/\Loc w1 (.slice A n c) (.slice A' (n+m) c'):=by
 obtain⟨i,z,ht,hi,hz,hs,hzs,hby,hsz⟩:=E;have hbytes:(n+m)*i.bytes<=140737488355328:=nt (Nat.mul_le_mul hn hby) (by decide);obtain⟨v',w',hrun,ho,hg,hl⟩:=oJ (P:=Tryz.prog) w1 base t ty e i z size i.bytes ht hi hz hs rfl hzs hsz (.slice A n c) n xs hown Bd A2 m c2 news hr h1 (by simp only[maxLen];omega) hbytes hb;obtain⟨A',c',rfl⟩:=gV ho;refine⟨A',c',w',hrun,ho,hg,?_⟩;rcases hl with hl|hl
 ·exact .inl hl
 exact .inr (fun g e=>by rw[hl] at e;injection e with e;omega)
section
variable {e t size:Nat} {ops:Array Oper} {rest:List Oper} {o:Oper} {a:Act} {Q:Exit->Act->World->Prop}
theorem G5 (E:ElT e t size)(hgd:o.guard=none)(s x:Operand)(ho:o.op= .call {callee:= .builtin .append,args:= #[s,x],argTypes:= #[t,t]})
  (w1:World) (base n c:Nat) (A:Option Addr) (xs:List Value) (Bd:Nat) (A2:Option Addr) (m c2:Nat) (news:List Value) (hs:a.eval s= .slice A n c) (hx:a.eval x= .slice A2 m c2)
  (hown:w1.ownsRow base e size (.slice A n c) n xs) (hr:Rd w1 Bd A2 m size news) (h1:∀u∈news,u.oneCell'=true) (hn:n+m<=100000000000) (hb:base<=w1.heap.size)
  (h:∀A' c' w',w'.ownsRow base e size (.slice A' (n+m) c') (n+m) (xs++news)->w1.grownBy w' (Value.slice A n c).ownBlock->Loc w1 (.slice A n c) (.slice A' (n+m) c')->wpList Tryz.prog ops Q rest (a.put o.dst (.slice A' (n+m) c')) w'):
  wpList Tryz.prog ops Q (o::rest) a w1:=by
 obtain⟨A',c',w',hrun,h2,h3,h4⟩:=wH E o.type w1 base n c A xs hown Bd A2 m c2 news hr h1 hn hb;refine wpList_plain hgd fun K hK=> ?_
 unfold Oper.wp execOp;simp only[ho,resolve,invoke,builtin,Sem.run_bind,Sem.run_pure,Result.andThen_ok,List.map_toArray,aqv,aq9,hs,hx,hrun];exact hK _ _ (h A' c' w' h2 h3 h4)
theorem iQ (E:ElT e t size)(hgd:o.guard=none)(s x:Operand)(ho:o.op= .call {callee:= .builtin .append,args:= #[s,x],argTypes:= #[t,t]})
  (w1:World) (hsz:Nat) (hh:w1.heap.size=hsz) (base n c:Nat) (A:Option Addr) (xs:List Value) (news:Array Value) (hnl:news.size=size) (hs:a.eval s= .slice A n c) (hx:a.eval x= .slice (some ⟨hsz,0,none⟩) 1 1)
  (hown:w1.ownsRow base e size (.slice A n c) n xs) (h1:∀u∈news.toList,u.oneCell'=true) (hn:n<=10000000000) (hb:base<=w1.heap.size)
  (h:∀A' c' w',w'.ownsRow base e size (.slice A' (n+1) c') (n+1) (xs++news.toList)->w1.grownBy w' (Value.slice A n c).ownBlock->Loc w1 (.slice A n c) (.slice A' (n+1) c')->wpList Tryz.prog ops Q rest (a.put o.dst (.slice A' (n+1) c')) w'):
  wpList Tryz.prog ops Q (o::rest) a (w1.alloc (.cells news e)):=by
 subst hh;refine G5 E hgd s x ho _ base n c A xs (w1.heap.size+1) (some ⟨w1.heap.size,0,none⟩) 1 1 news.toList hs hx (hown.alloc _) (Rd.newAt _ _ rfl news e 1 size (by omega)) h1 (by omega) (by simp;omega) ?_;intro A' c' w' h2 h3 h4;refine h A' c' w' h2 ⟨h3.os,h3.tape,h3.output,nt (by simp) h3.size,fun i hi hne=> ?_⟩ (h4.imp id fun h5 g hg=>by have:=h5 g hg;simp at this;omega);exact(h3.block i (by simp;omega) hne).trans (Below.heap_alloc _ _ _ hi)
end
end
section
theorem aa0 (w:World):Calls Tryz.prog 27 #[] w fun e w'=>e= .returned (.slice (some ⟨w.heap.size,0,none⟩) 39 39)/\w'=w.alloc (.cells (strs opNames).toArray 9):=by
 go_enter Tryz.func27,Tryz.ntmps27
 go_wp2;go_ret
 exact⟨rfl,rfl⟩
def o8 (σ :B×List B):List B:= σ.2++if σ.1=[] then [] else [σ.1]
def kP (σ :B×List B)(c:UInt8):B×List B:=if blank c then([],o8 σ) else(σ.1++[c],σ.2)
def IA (l:B):B×List B:=l.foldl kP ([],[])
def texts (l:B):List B:=o8 (IA (code l))
theorem Zj (l:B):texts l=(one l).map (·.2):=by
 have key:∀(σ :St) (m:B),m.foldl kP (σ.cur,σ.told.map (·.2))=((m.foldl step σ).cur,(m.foldl step σ).told.map (·.2)):=by
  intro σ m;induction m generalizing σ with
  |nil=>rfl
  |cons c r ih=>
   rw[aqN,aqN,<-ih];congr 1
   unfold kP step o8 St.all St.pend;by_cases hb:blank c=true
   ·simp only[hb,if_true];by_cases hc: σ.cur=[]<;>simp[hc]
   simp[hb]
 have:=key st0 (code l);unfold texts IA one run;simp only[st0,aq9] at this;rw[this];unfold o8 St.all St.pend;by_cases hc:(List.foldl step st0 (code l)).cur=[]<;>simp[hc,st0]<;>simp_all [st0]
def tl:Nat->List B->List (Int×List B)
 |_,[]=>[]
 |n,p::ps=>(if texts p=[] then [] else [((n:Int),texts p)])++tl (n+1) ps
theorem agE (n:Nat)(a b:List B):tl n (a++b)=tl n a++tl (n+a.length) b:=by
 induction a generalizing n with
 |nil=>simp[tl]
 |cons p ps ih=>simp only[aqC,tl,ih,ay,aqy];rw[show n+1+ps.length=n+(ps.length+1) by omega]
theorem uK (src:B):linesT src=tl 1 (dh src):=by
 unfold linesT fJ;generalize 1=n;induction dh src generalizing n with
 |nil=>rfl
 |cons p ps ih=>
  rw[bK,aqY,ih,tl,Zj];congr 1
  by_cases h:one p=[]
  ·rw[if_pos h,h];simp
  rw[if_neg h,if_neg (by simpa using h)];cases ho:one p with
  |nil=>exact absurd ho h
  |cons a r=>simp[num]
def shift (k:Int)(L:List (Int×List B)):List (Int×List B):=L.map (fun l=>(l.1+k,l.2))
theorem aay (n k:Nat)(ps:List B):tl (n+k) ps=shift k (tl n ps):=by
 induction ps generalizing n with
 |nil=>rfl
 |cons p ps ih=>
  have:=ih (n+1);rw[show n+1+k=n+k+1 by omega] at this;unfold shift at this ⊢;rw[tl,tl,this,aqY];congr 1
  split<;>simp
theorem Ya (k:Int)(L:List (Int×List B)):(shift k L).map (·.2)=L.map (·.2):=by simp[shift]
theorem TE (gl:Gl)(s:PS)(k:Int)(L:List (Int×List B)):stmts gl s (shift k L)=(match stmts gl s L with| .ok s'=> .ok s'| .error (n,e)=> .error (n+k,e)):=by
 induction L generalizing s with
 |nil=>rfl
 |cons x L ih=>
  obtain⟨n,l⟩:=x;have e:shift k ((n,l)::L)=(n+k,l)::shift k L:=rfl;rw[e,stmts,stmts];cases stmt gl s l with
  |error e=>rfl
  |ok s'=>exact ih s'
theorem RN (a b:B)(k:Nat)(h:linesT b=shift k (linesT a)):dw b=(match dw a with| .ok f=> .ok f| .error (n,e)=> .error (n+k,e)):=by
 unfold dw;rw[h,Ya,TE];cases stmts (bf 0 ((linesT a).map (·.2))) ps0 (linesT a) with
 |ok s=>rfl
 |error x=>rfl
def ex (l:B):B:=l.flatMap (fun c=>if c=32 then [32,9,32] else [c])
theorem G7 (σ :B×List B)(c:UInt8)(h:blank c=true):kP σ c=([],o8 σ):=by rw[kP,if_pos h]
theorem FU (t:List B)(c:UInt8)(h:blank c=true):kP ([],t) c=([],t):=by rw[kP,if_pos h];simp[o8]
theorem Uk (l:B)(σ :B×List B):(ex l).foldl kP σ =l.foldl kP σ :=by
 induction l generalizing σ with
 |nil=>rfl
 |cons c r ih=>
  have e:ex (c::r)=(if c=32 then [32,9,32] else [c])++ex r:=by simp[ex]
  rw[e,aq7,ih,aqN];congr 1
  split
  ·rename_i hc;subst hc;rw[aqN,aqN,aqN,aq8,G7 σ 32 (by decide),FU _ 9 (by decide),FU _ 32 (by decide)]
  rfl
theorem aeu (l m:B):code (ex l++m)=if 35∈l then ex (code l) else ex l++code m:=by
 induction l with
 |nil=>simp[ex]
 |cons c r ih=>
  have e:ex (c::r)=(if c=32 then [32,9,32] else [c])++ex r:=by simp[ex]
  have step1:∀(d:UInt8) (x:B),d≠35->code (d::x)=d::code x:=fun d x hd=>by
   unfold code;rw[List.takeWhile_cons_of_pos (by simpa using hd)]
  by_cases h35:c=35
  ·subst h35;rw[e,if_neg (by decide),if_pos (by simp)];simp[code,ex]
  by_cases h32:c=32
  ·subst h32;rw[e,if_pos rfl];simp only[aqC,aqX];rw[step1 _ _ (by decide),step1 _ _ (by decide),step1 _ _ (by decide),ih];by_cases hm:(35:UInt8)∈r
   ·rw[if_pos hm,if_pos (by simp[hm]),step1 _ _ (by decide)];simp[ex]
   rw[if_neg hm,if_neg (by simp[hm])]
  rw[e,if_neg h32];simp only[aqC,aqX];rw[step1 _ _ h35,ih];by_cases hm:(35:UInt8)∈r
  ·rw[if_pos hm,if_pos (by simp[hm]),step1 _ _ h35];simp[ex,h32]
  rw[if_neg hm,if_neg (by simp[hm,Ne.symm h35])]
  try simp
theorem aeo (l:B)(h:35 ∉ l):code l=l:=by
 induction l with
 |nil=>rfl
 |cons c r ih=>
  have:c≠35:=fun e=>h (by simp[e])
  unfold code at ih ⊢;rw[List.takeWhile_cons_of_pos (by simpa using this),ih (fun hm=>h (by simp[hm]))]
theorem wI (l m:B)(h:∀c∈code m,blank c=true):texts (ex l++m)=texts l:=by
 have hb:∀(x:B) (σ :B×List B),(∀c∈x,blank c=true)->o8 (x.foldl kP σ)=o8 σ :=by
  intro x;induction x with
  |nil=>intro σ _;rfl
  |cons c r ih=>intro σ hx;rw[aqN,G7 σ c (hx c (by simp)),ih _ (fun d hd=>hx d (by simp[hd]))];simp[o8]
 unfold texts IA;rw[aeu];split
 ·rw[Uk]
 rename_i hn;rw[aq7,hb _ _ h,Uk,aeo l hn]
theorem Sv (m:B)(h:∀c∈code m,blank c=true):texts m=[]:=by have:=wI [] m h;rw[show ex []=[] from rfl,aqX] at this;rw[this];rfl
def jQ (sfx:Nat->B):Nat->B->B
 |_,[]=>[]
 |n,c::r=>(if c=10 then sfx n++[10] else if c=32 then [32,9,32] else [c])++jQ sfx (if c=10 then n+1 else n) r
theorem aec (sfx:Nat->B)(h10:∀n,∀c∈sfx n,c≠10)(s:B)(n:Nat):∃p ps,dh s=p::ps/\∀pre:B,(∀c∈pre,c≠10)->∃q qs,dh (pre++jQ sfx n s)=(pre++q)::qs/\
  ((ps=[]/\q=ex p/\qs=[])\/(q=ex p++sfx n/\(∀m,(∀c∈code (sfx n),blank c=true)->(∀k,∀c∈code (sfx k),blank c=true)->tl m qs=tl m ps))):=by
 induction s generalizing n with
 |nil=>refine⟨[],[],rfl,fun pre hp=>⟨[],[],?_,.inl ⟨rfl,rfl,rfl⟩⟩⟩;simp only[jQ,aqR];exact QH pre hp
 |cons c r ih=>
  by_cases hc:c=10
  ·subst hc;obtain⟨p,ps,e1,e2⟩:=ih (n+1);refine⟨[],p::ps,by rw[dh,if_pos rfl,e1],fun pre hp=> ?_⟩;obtain⟨q,qs,f1,f2⟩:=e2 [] (by simp);refine⟨sfx n,q::qs,?_,.inr ⟨by simp[ex],fun m _ hb=> ?_⟩⟩
   ·have e:pre++jQ sfx n (10::r)=(pre++sfx n)++10::jQ sfx (n+1) r:=by simp[jQ]
    rw[e,DT _ _ (fun c hc=>by
     rw[aqp] at hc;rcases hc with hc|hc
     ·exact hp c hc
     exact h10 n c hc)]
    simp only[aqX] at f1;rw[f1]
   rcases f2 with⟨g1,g2,g3⟩|⟨g1,g2⟩
   ·subst g1 g2 g3;have:texts (ex p)=texts p:=by have:=wI p [] (by simp[code]);simpa using this
    simp[tl,this]
   subst g1;rw[tl,tl,wI p _ (hb _),g2 (m+1) (hb _) hb]
  obtain⟨p,ps,e1,e2⟩:=ih n;refine⟨c::p,ps,by rw[dh,if_neg hc,e1],fun pre hp=> ?_⟩;have hx:∀d∈pre++(if c=32 then [32,9,32] else [c]),d≠10:=by
   intro d hd;rw[aqp] at hd;rcases hd with hd|hd
   ·exact hp d hd
   split at hd
   ·simp only[aqx,aqV,or_false] at hd;rcases hd with rfl|rfl|rfl<;>decide
   simp only[aql] at hd;subst hd;exact hc
  obtain⟨q,qs,f1,f2⟩:=e2 _ hx;refine⟨(if c=32 then [32,9,32] else [c])++q,qs,?_,?_⟩
  ·have e:pre++jQ sfx n (c::r)=(pre++if c=32 then [32,9,32] else [c])++jQ sfx n r:=by simp[jQ,hc]
   rw[e,f1,aqy]
  have e:ex (c::p)=(if c=32 then [32,9,32] else [c])++ex p:=by simp[ex]
  rcases f2 with⟨g1,g2,g3⟩|⟨g1,g2⟩
  ·exact .inl ⟨g1,by rw[g2,e],g3⟩
  exact .inr ⟨by rw[g1,e,aqy],g2⟩
theorem agM (sfx:Nat->B)(h10:∀n,∀c∈sfx n,c≠10)(hb:∀n,∀c∈code (sfx n),blank c=true)(s:B)(m:Nat):tl m (dh (jQ sfx 0 s))=tl m (dh s):=by
 obtain⟨p,ps,e1,e2⟩:=aec sfx h10 s 0;obtain⟨q,qs,f1,f2⟩:=e2 [] (by simp);simp only[aqX] at f1;rw[f1,e1];rcases f2 with⟨g1,g2,g3⟩|⟨g1,g2⟩
 ·subst g1 g2 g3;have:texts (ex p)=texts p:=by have:=wI p [] (by simp[code]);simpa using this
  simp[tl,this]
 subst g1;rw[tl,tl,wI p _ (hb _),g2 (m+1) (hb _) hb]
def ahead (one:B)(k:Nat)(r:B):B:=match k with|0=>r|k+1=>one++10::ahead one k r
theorem acj (o:B)(h10:∀c∈o,c≠10)(hb:∀c∈code o,blank c=true)(k:Nat)(r:B)(n:Nat):tl n (dh (ahead o k r))=tl (n+k) (dh r):=by
 induction k generalizing n with
 |zero=>rfl
 |succ k ih=>
  rw[ahead,DT _ _ h10,tl,Sv o hb,if_pos rfl,aqX,ih];congr 1
  omega
theorem Vh (o:B)(h10:∀c∈o,c≠10)(hb:∀c∈code o,blank c=true)(sfx:Nat->B)(g10:∀n,∀c∈sfx n,c≠10)(gb:∀n,∀c∈code (sfx n),blank c=true)(k:Nat)(s:B):
  dw (ahead o k (jQ sfx 0 s))=(match dw s with| .ok f=> .ok f| .error (n,e)=> .error (n+k,e)):=by
 refine RN s _ k ?_;rw[uK,uK,acj o h10 hb,agM sfx g10 gb,aay]
theorem adI (a b:B):dh (a++10::b)=dh a++dh b:=by
 induction a with
 |nil=>simp[dh]
 |cons c r ih=>
  by_cases hc:c=10
  ·subst hc;rw[aqC,dh,if_pos rfl,ih,dh,if_pos rfl,aqC]
  rw[aqC,dh,if_neg hc,ih,dh,if_neg hc];cases hp:dh r with
  |nil=>exact absurd hp (GZ r)
  |cons p ps=>rfl
theorem Dy (a:B):(dh a).length=a.count 10+1:=by
 induction a with
 |nil=>rfl
 |cons c r ih=>
  by_cases hc:c=10
  ·subst hc;rw[dh,if_pos rfl,ay,ih,List.count_cons_self]
  rw[dh,if_neg hc,List.count_cons_of_ne hc];cases hp:dh r with
  |nil=>exact absurd hp (GZ r)
  |cons p ps=>rw[<-ih,hp];rfl
theorem VY (n:Nat)(a b:List (List B))(hb:∀l∈b,∀w r,l=w::r->w≠eQ):bf n (a++b)=bf n a:=by
 induction a generalizing n with
 |nil=>
  rw[aqX];induction b with
  |nil=>rfl
  |cons l L ih=>
   have:=ih (fun x hx=>hb x (by simp[hx]));cases l with
   |nil=>rw[vI];exact this
   |cons w r=>rw[fK,if_neg (hb (w::r) (by simp) w r rfl)];exact this
 |cons l L ih=>
  cases l with
  |nil=>rw[aqC,vI,vI];exact ih n
  |cons w r=>
   rw[aqC,fK,fK];split
   ·rw[ih]
   exact ih n
theorem QX (s t:B)(l:List B)(ht:∀n,∃R,tl n (dh t)=((n:Int),l)::R/\∀x∈R,∀w r,x.2=w::r->w≠eQ)(hl:∀w r,l=w::r->w≠eQ)(hw:∀gl st,stmt gl st l= .error 22):
  dw (s++10::t)=(match dw s with| .ok _=> .error (((s.count 10+2:Nat):Int),22)| .error x=> .error x):=by
 obtain⟨R,h1,h2⟩:=ht (1+(s.count 10+1));have e:linesT (s++10::t)=linesT s++(((1+(s.count 10+1):Nat):Int),l)::R:=by rw[uK,adI,agE,Dy,h1,uK]
 have eg:bf 0 ((linesT (s++10::t)).map (·.2))=bf 0 ((linesT s).map (·.2)):=by
  rw[e,aqY];refine VY 0 _ _ fun x hx w r hr=> ?_
  rw[aqv,aqx,aqQ] at hx;rcases hx with rfl|⟨y,hy,rfl⟩
  ·exact hl w r hr
  exact h2 y hy w r hr
 unfold dw;rw[eg,e,xW];cases stmts (bf 0 ((linesT s).map (·.2))) ps0 (linesT s) with
 |error x=>rfl
 |ok st=>
  simp only[stmts,hw];show Except.error _=Except.error _;congr 2
  omega
end
end Go.Proofs.YtkijckccfookeaaGreatDoor
