/- Lemmas. -/
import Derived.Test.YtkijckccfookeaaGreatDoorU05
import Derived.Lib.MakeNoZero
set_option linter.unusedVariables false
set_option linter.unusedSimpArgs false
set_option maxRecDepth 100000
set_option maxHeartbeats 32000000
namespace Go.Proofs.YtkijckccfookeaaGreatDoor
open Go.RowKit
section
def ald {α:Type}(R:Rel α)(size:Nat)(w:World)(S:Bs)(r:RV)(xs:List α):Prop:=r.n=xs.length/\Fl R size w S r.xs xs
theorem ald.tr {α:Type}{R:Rel α}(ok:R.Ok){size:Nat}{w w':World}{rv rv':Rows}{r:RV}{xs:List α}(h:ald R size w (Fz w rv) r xs)(t:Tr w rv w' rv'):ald R size w' (Fz w' rv') r xs:=⟨h.1,t.fl ok h.2⟩
theorem ald.nil {α:Type}(R:Rel α)(size:Nat)(w:World)(S:Bs):ald R size w S RV.nil []:=⟨rfl,Fl.nil⟩
def GlD (w:World)(S:Bs)(r0 r8 r9 r10 r11 r12 r13:RV)(gs:List akN):Prop:=
 r0.n=gs.length/\((gs=[]/\r0.xs=[])\/∃init g ci,gs=init++[g]/\
  r0.xs=ci++[.string ⟨g.name.toArray⟩,.int .i64 g.advance,.bool g.mark,r8.v,r9.v,r10.v,r11.v,r12.v,r13.v]/\I64 g.advance/\Fl akQ 9 w S ci init/\
  ald PtR 3 w S r8 g.points/\ald akL 1 w S r9 g.ends/\ald ala 3 w S r10 g.parts/\ald akX 4 w S r11 g.anchors/\ald ak2 4 w S r12 g.deltas/\ald akZ 2 w S r13 g.hint)
theorem GlD.tr {w w':World}{rv rv':Rows}{r0 r8 r9 r10 r11 r12 r13:RV}{gs:List akN}(h:GlD w (Fz w rv) r0 r8 r9 r10 r11 r12 r13 gs)(t:Tr w rv w' rv'):GlD w' (Fz w' rv') r0 r8 r9 r10 r11 r12 r13 gs:=by
 refine⟨h.1,?_⟩;rcases h.2 with h|⟨init,g,ci,h1,h2,h3,h4,h5,h6,h7,h8,h9,h10⟩
 ·exact .inl h
 exact .inr ⟨init,g,ci,h1,h2,h3,t.fl akQ.ok h4,h5.tr PtR.ok t,h6.tr akL.ok t,h7.tr ala.ok t,h8.tr akX.ok t,h9.tr ak2.ok t,h10.tr akZ.ok t⟩
def LkD (w:World)(S:Bs)(r2 r14:RV)(ls:List Lookup):Prop:=r2.n=ls.length/\((ls=[]/\r2.xs=[])\/∃init l ci,ls=init++[l]/\r2.xs=ci++[.int .i64 l.kind,.bool l.alr,r14.v]/\I64 l.kind/\Fl akS 3 w S ci init/\ald ak3 6 w S r14 l.rules)
theorem LkD.tr {w w':World}{rv rv':Rows}{r2 r14:RV}{ls:List Lookup}(h:LkD w (Fz w rv) r2 r14 ls)(t:Tr w rv w' rv'):LkD w' (Fz w' rv') r2 r14 ls:=by
 refine⟨h.1,?_⟩;rcases h.2 with h|⟨init,l,ci,h1,h2,h3,h4,h5⟩
 ·exact .inl h
 exact .inr ⟨init,l,ci,h1,h2,h3,t.fl akS.ok h4,h5.tr ak3.ok t⟩
def alJ (w:World)(S:Bs)(cm:Nat)(cls:List (B×List Int)):Prop:=∃f,akW mi w cm f/\∀t,(cls.lookup t=none/\f t=none)\/∃l A c,cls.lookup t=some l/\f t=some (.slice A l.length c)/\Sl akL 1 w S A l/\l.length<=2000
structure FD (w:World)(S:Bs)(rv:Rows)(f:Fnt):Prop where
 unit:I64 f.unit
 gly:GlD w S (rv 0) (rv 8) (rv 9) (rv 10) (rv 11) (rv 12) (rv 13) f.akJ
 chr:ald alm 2 w S (rv 1) f.chars
 lks:LkD w S (rv 2) (rv 14) f.akK
 fts:ald akR 2 w S (rv 3) f.features
 axs:ald ale 4 w S (rv 4) f.akP
 rgs:ald akU 1 w S (rv 5) f.regions
 fns:ald ak6 1 w S (rv 6) f.funcs
 cvt:ald akL 1 w S (rv 7) f.cvt
theorem FD.tr {w w':World}{rv rv':Rows}{f:Fnt}(h:FD w (Fz w rv) rv f)(t:Tr w rv w' rv'):FD w' (Fz w' rv') rv f:=⟨h.unit,h.gly.tr t,h.chr.tr alm.ok t,h.lks.tr t,h.fts.tr akR.ok t,h.axs.tr ale.ok t,h.rgs.tr akU.ok t,h.fns.tr ak6.ok t,h.cvt.tr akL.ok t⟩
def dW (s:PS)(rv:Rows)(gm cm:Nat):Array Value:=#[.int .i64 s.f.unit,(rv 0).v,(rv 1).v,(rv 2).v,(rv 3).v,(rv 4).v,(rv 5).v,(rv 6).v,(rv 7).v,.bool s.unit,.map (some gm),.map (some cm)]
abbrev jy:TypeId:=116
abbrev MM:TypeId:=194
structure PSt (w:World)(Bd p gm cm:Nat)(gl:Gl)(s:PS)(rv:Rows)(K:Nat):Prop where
 par:Bk w p jy (dW s rv gm cm)
 live:Live w Bd rv
 fnt:FD w (Fz w rv) rv s.f
 gmp:akW mi w gm (fun t=>(gl.lookup t).map fun n=> .int .i64 (n:Nat))
 glI:∀t n,gl.lookup t=some n->n<=1000000000
 cls:alJ w (Fz w rv) cm s.cls
 few:∀j,j<15->(rv j).n<=K
 low:Bd<=p/\Bd<=gm/\Bd<=cm/\gm≠cm
theorem akW.alS {κ :Type}{E:Emb κ}{w:World}{b:Nat}{f: κ ->Option Value}(h:akW E w b f){t:TypeId}{cs:Array Value}(hb:Bk w b t cs):False:=by obtain⟨es,clock,h1⟩:=h.isMap;unfold Bk at hb;rw[h1] at hb;cases hb
theorem Bk.keep {w w':World}{g:Nat}{t:TypeId}{cs:Array Value}(h:Bk w g t cs)(hk:w'.heap[g]? =w.heap[g]?):Bk w' g t cs:=hk.trans h
theorem alJ.tr {w w':World}{rv rv':Rows}{cm:Nat}{cls:List (B×List Int)}(h:alJ w (Fz w rv) cm cls)(t:Tr w rv w' rv')(hk:w'.heap[cm]? =w.heap[cm]?):alJ w' (Fz w' rv') cm cls:=by
 obtain⟨f,h1,h2⟩:=h;refine⟨f,h1.keep hk,fun x=> ?_⟩;rcases h2 x with h|⟨l,A,c,e1,e2,e3,e4⟩
 ·exact .inl h
 exact .inr ⟨l,A,c,e1,e2,t.sl akL.ok e3,e4⟩
theorem alJ.lt {w:World}{S:Bs}{cm:Nat}{cls:List (B×List Int)}(h:alJ w S cm cls):cm<w.heap.size:=by obtain⟨f,h1,h2⟩:=h;exact h1.lt
section
variable {w w':World} {Bd p gm cm:Nat} {gl:Gl} {s:PS} {rv:Rows} {K:Nat}
theorem PSt.mono (h:PSt w Bd p gm cm gl s rv K){K':Nat}(hK:K<=K'):PSt w Bd p gm cm gl s rv K':= {h with few:=fun j hj=>nt (h.few j hj) hK}
theorem PSt.below (h:PSt w Bd p gm cm gl s rv K)(hb:Below w.heap.size w w'):PSt w' Bd p gm cm gl s rv K:={par:=h.par.keep (hb.block p h.par.lt),live:=h.live.below hb,fnt:=h.fnt.tr (Tr.below hb),gmp:=h.gmp.below hb,glI:=h.glI,cls:=h.cls.tr (Tr.below hb) (hb.block cm h.cls.lt),few:=h.few,low:=h.low}
theorem PSt.other (h:PSt w Bd p gm cm gl s rv K){row:Nat}(hg:w.grownBy w' (some row)){t:TypeId}{cs:Array Value}(hr:Bk w row t cs)(h1:lK t=false)(h2:t≠jy):PSt w' Bd p gm cm gl s rv K:=by
 have hr':∀g,some row=some g->∀t cs,Bk w g t cs->lK t=false:=fun g e t' cs' hb=>by
  injection e with e
  subst e;rw[(bU hb hr).1];exact h1
 have ht:Tr w rv w' rv:=Tr.other hg hr';refine {par:=h.par.keep (hg.block p h.par.lt fun e=> ?_),live:=h.live.other hg hr',fnt:=h.fnt.tr ht,gmp:=h.gmp.grown hg fun e=> ?_,glI:=h.glI,cls:=h.cls.tr ht (hg.block cm h.cls.lt fun e=> ?_),few:=h.few,low:=h.low}
 ·injection e with e
  subst e;exact h2 (bU hr h.par).1
 ·injection e with e
  subst e;exact h.gmp.alS hr
 injection e with e
 subst e;obtain⟨f,h1,h2⟩:=h.cls;exact h1.alS hr
theorem PSt.drewN (h:PSt w Bd p gm cm gl s rv K)(n:Nat):PSt (w.drewN n) Bd p gm cm gl s rv K:=h.below ⟨rfl,rfl,rfl,af _,fun _ _=>rfl⟩
theorem PSt.row_ne (h:PSt w Bd p gm cm gl s rv K){i:Nat}(hi:i<15):(rv i).v.ownBlock≠some p/\(rv i).v.ownBlock≠some gm/\(rv i).v.ownBlock≠some cm:=by
 refine⟨fun e=> ?_,fun e=> ?_,fun e=> ?_⟩<;>obtain⟨cur,hb⟩:=bg (h.live.own i hi) e
 ·have:=(bU hb h.par).1;have hd:=vX i;rw[this] at hd
  revert hd
  decide
 ·exact h.gmp.alS hb
 obtain⟨f,h1,h2⟩:=h.cls;exact h1.alS hb
theorem PSt.row (h:PSt w Bd p gm cm gl s rv K){i:Nat}(hi:i<15){r:RV}(hg:w.grownBy w' (rv i).v.ownBlock)(ho:w'.ownsRow Bd (kT i) (kS i) r.v r.n r.xs)
  (hl:r.v.ownBlock=(rv i).v.ownBlock\/∀g,r.v.ownBlock=some g->w.heap.size<=g):
  Bk w' p jy (dW s rv gm cm)/\Live w' Bd (upd rv i r)/\Tr w rv w' (upd rv i r)/\akW mi w' gm (fun t=>(gl.lookup t).map fun n=> .int .i64 (n:Nat))/\alJ w' (Fz w' (upd rv i r)) cm s.cls:=by
 obtain⟨n1,n2,n3⟩:=h.row_ne hi;have ht:=Tr.row (rv:=rv) hi hg hl;exact⟨h.par.keep (hg.block p h.par.lt (fun e=>n1 e.symm)),h.live.row hi hg ho hl,ht,h.gmp.grown hg (fun e=>n2 e.symm),h.cls.tr ht (hg.block cm h.cls.lt (fun e=>n3 e.symm))⟩
theorem PSt.amm {s':PS}{rv':Rows}{cs:Array Value}(hp:Bk w p jy cs)(hl:Live w Bd rv')(hf:FD w (Fz w rv') rv' s'.f)(hm:akW mi w gm (fun t=>(gl.lookup t).map fun n=> .int .i64 (n:Nat)))(hi:∀t n,gl.lookup t=some n->n<=1000000000)
  (hc:alJ w (Fz w rv') cm s'.cls) (hw:∀j,j<15->(rv' j).n<=K) (hB:Bd<=p/\Bd<=gm/\Bd<=cm/\gm≠cm) (j:Nat) (u:Value) (hcs:cs.setIfInBounds j u=dW s' rv' gm cm):PSt (w.setCell ⟨p,j,none⟩ u) Bd p gm cm gl s' rv' K:=by
 have hg:=dE w ⟨p,j,none⟩ u;have hr':∀g,some p=some g->∀t cs,Bk w g t cs->lK t=false:=fun g e t' cs' hb=>by
  injection e with e
  subst e;rw[(bU hb hp).1];decide
 have ht:Tr w rv' (w.setCell ⟨p,j,none⟩ u) rv':=Tr.other hg hr';refine {par:= ?_,live:=hl.other hg hr',fnt:=hf.tr ht,gmp:=hm.grown hg fun e=> ?_,glI:=hi,cls:=hc.tr ht (hg.block cm hc.lt fun e=> ?_),few:=hw,low:=hB}
 ·rw[<-hcs];exact hp.set j u
 ·injection e with e
  subst e;exact hm.alS hp
 injection e with e
 subst e;obtain⟨f,h1,h2⟩:=hc;exact h1.alS hp
end
end
section
def N9 (n:Int):Prop:= -999999999<=n/\n<=999999999
def mG (p:List Ins):Prop:=∀i∈p,1<=i.op/\i.op<=39/\N9 i.a
def In (n:Nat)(x:Int):Prop:=0<=x/\x<n
def rH:Nat->List Int->Nat->Prop
 |fr,[],len=>fr=len
 |fr,e::es,len=>(fr:Int)<=e/\e<len/\rH (e.toNat+1) es len
structure OkG (n:Nat)(g:akN):Prop where
 name:nameB g.name=true
 adv:N9 g.advance
 pts:∀p∈g.points,N9 p.x/\N9 p.y
 ends:rH 0 g.ends g.points.length
 parts:∀p∈g.parts,In n p.akY/\N9 p.x/\N9 p.y
 anch:∀a∈g.anchors,1<=a.kind/\a.kind<=4/\N9 a.cls/\N9 a.x/\N9 a.y
 alh:∀d∈g.deltas,N9 d.region/\N9 d.point/\N9 d.x/\N9 d.y
 hint:mG g.hint
def Ox (n:Nat)(s:List Int):Prop:=s.Pairwise (· < ·)/\∀x∈s,In n x
structure OkR (n:Nat)(kind:Int)(r:als):Prop where
 back:∀s∈r.back,Ox n s
 in':∀s∈r.in',Ox n s
 ahead:∀s∈r.ahead,Ox n s
 out:∀x∈r.out,In n x
 calls:∀c∈r.calls,N9 c.at'/\N9 c.lookup
 x:N9 r.x
 one:kind=1\/kind=5->∃s,r.in'=[s]/\r.out.length=s.length
 outs:kind=4\/6<=kind->r.out=[]
 noC:kind≠4->r.calls=[]
 noX:kind≠6->r.x=0
structure al1 (f:Fnt):Prop where
 unit:N9 f.unit
 akP:∀a∈f.akP,nameB a.name=true/\N9 a.min'/\N9 a.alI/\N9 a.max'
 regs:∀r∈f.regions,∀t∈r.ak1,N9 t.start/\N9 t.peak/\N9 t.stop
 cvt:∀n∈f.cvt,N9 n
 funcs:∀p∈f.funcs,mG p
 apart:(f.akJ.map (·.name)).Nodup
 akJ:∀g∈f.akJ,OkG f.akJ.length g
 chars:∀c∈f.chars,N9 c.rune/\In f.akJ.length c.akY
 akK:∀l∈f.akK,1<=l.kind/\l.kind<=8/\∀r∈l.rules,OkR f.akJ.length l.kind r
 ak0:∀x∈f.features,nameB x.name=true/\∀n∈x.akK,N9 n
 few:f.akJ.length<=1000
def OH (c:UInt8):Bool:=gz c||c==45
theorem vS (u:Nat):∀c∈Lib.decDigits u,gz c=true:=by
 induction u using Nat.strongRecOn with
 |_ u ih=>
  rw[Lib.decDigits];split
  ·intro c hc;simp only[anu] at hc;subst hc;rw[mD,UInt8.toNat_ofNat'];omega
  intro c hc;rw[anz,anu] at hc;rcases hc with hc|rfl
  ·exact ih (u / 10) (by omega) c hc
  rw[mD,UInt8.toNat_ofNat'];omega
theorem RH (u:Nat):nD (Lib.decDigits u)=u:=by
 induction u using Nat.strongRecOn with
 |_ u ih=>
  rw[Lib.decDigits];split
  ·have e:[UInt8.ofNat (48+u)]=[]++[UInt8.ofNat (48+u)]:=rfl;rw[e,xX,UInt8.toNat_ofNat'];have:nD []=0:=rfl;omega
  rw[xX,ih (u / 10) (by omega),UInt8.toNat_ofNat'];omega
theorem Sv (k:Nat):∀u,u<10 ^ (k+1)->Lib.nDigits u<=k+1:=by
 induction k with
 |zero=>intro u hu;rw[Lib.nDigits_small (by simpa using hu)];exact af _
 |succ k ih=>
  intro u hu;by_cases h:u<10
  ·rw[Lib.nDigits_small h];omega
  rw[Lib.nDigits_big h];have:=ih (u / 10) (by rw[Nat.pow_succ] at hu;omega);omega
theorem DK (u:Nat)(h:u<=999999999):1<=(Lib.decDigits u).length/\(Lib.decDigits u).length<=9:=by rw[Lib.decDigits_length];exact⟨Lib.nDigits_pos u,Sv 8 u (by show u<1000000000;omega)⟩
theorem Rw (u:Nat)(h:u<=999999999):tZ (Lib.decDigits u)=true:=Oz _ (vS u) (DK u h).1 (DK u h).2
theorem OQ (u:Nat):∃c r,Lib.decDigits u=c::r/\c≠45:=by
 cases h:Lib.decDigits u with
 |nil=>have:=Lib.decDigits_length u;have:=Lib.nDigits_pos u;rw[h] at*;simp at*;omega
 |cons c r=>
  refine⟨c,r,rfl,fun e=> ?_⟩;have:=vS u c (by rw[h];simp);rw[e] at this
  revert this
  decide
theorem eG (n:Int)(h:N9 n):vK (ah n)=true/\aI (ah n)=n:=by
 unfold N9 at h;unfold ah Lib.itoa;split
 ·have e:gI (45::Lib.decDigits n.natAbs)=Lib.decDigits n.natAbs:=rfl;have e2:signed (45::Lib.decDigits n.natAbs)=true:=rfl;have e3:=Rw n.natAbs (by omega);refine⟨by rw[vK,e,e3],?_⟩;rw[aI,e,e2,if_pos e3,if_pos rfl,RH];omega
 obtain⟨c,r,h1,h2⟩:=OQ n.toNat;have e:gI (Lib.decDigits n.toNat)=Lib.decDigits n.toNat/\signed (Lib.decDigits n.toNat)=false:=by
  rcases wX (Lib.decDigits n.toNat) with⟨r',h,_⟩|⟨h3,h4,_⟩
  ·rw[h1] at h;injection h with h _
   exact absurd h h2
  exact⟨h3,h4⟩
 have e3:=Rw n.toNat (by omega);refine⟨by rw[vK,e.1,e3],?_⟩;rw[aI,e.1,e.2,if_pos e3,RH];simp;omega
theorem qH (n:Int):∀c∈ah n,OH c=true:=by
 intro c hc;unfold ah Lib.itoa at hc;split at hc
 ·rw[anG] at hc;rcases hc with rfl|hc
  ·decide
  simp[OH,vS _ c hc]
 simp[OH,vS _ c hc]
theorem afu (n:Int):ah n≠[]:=by
 unfold ah Lib.itoa;split
 ·simp
 obtain⟨c,r,h1,h2⟩:=OQ n.toNat;rw[h1];simp
theorem iV {c:UInt8}(h:OH c=true):zh c=true/\c≠58/\c≠44/\c≠42/\c≠64/\c≠47/\c≠62/\c≠91/\c≠93:=by
 simp only[OH,Bool.or_eq_true,mD,beq_iff_eq] at h;refine⟨?_,?_,?_,?_,?_,?_,?_,?_,?_⟩
 ·simp only[zh,anT,bne_iff_ne,ne_eq];refine⟨⟨⟨?_,?_⟩,?_⟩,?_⟩<;>(rintro rfl;revert h;decide)
 all_goals (rintro rfl;revert h;decide)
theorem rU (n:Int):bV (ah n)=true:=by simp only[bV,anT,Bool.not_eq_true',List.isEmpty_eq_false_iff,an5];exact⟨afu n,fun c hc=>(iV (qH n c hc)).1⟩
theorem gU (n:Int)(h:N9 n)(e:Int):aK e (ah n)=e:=by rw[aK,if_neg (by rw[(eG n h).1];simp)]
theorem wP (l:List Int)(h:∀n∈l,N9 n)(e:Int):fD e (l.map ah)=e:=by
 induction l generalizing e with
 |nil=>rfl
 |cons n r ih=>have:fD e ((n::r).map ah)=fD (aK e (ah n)) (r.map ah):=rfl;rw[this,gU n (h n (by simp)),ih (fun m hm=>h m (by simp[hm]))]
theorem Fq (l:List Int)(h:∀n∈l,N9 n):(l.map ah).map aI=l:=by
 rw[aof]
 conv=>rhs;rw[<-List.map_id l]
 exact List.map_congr_left (fun n hn=>(eG n (h n hn)).2)
theorem XT {s:B}(h:nameB s=true):∀c∈s,zh c=true/\c≠58/\c≠44/\c≠42/\c≠64/\c≠47/\c≠62/\c≠91/\c≠93:=by
 intro c hc;obtain⟨k,hk⟩:=anP.1 hc;have ha:nameAt k c=true:=by rw[<-Bool.not_eq_false];intro hf;rw[FB s k c hk hf] at h;cases h
 rw[Ai] at ha;refine⟨?_,?_,?_,?_,?_,?_,?_,?_,?_⟩
 ·simp only[zh,anT,bne_iff_ne,ne_eq];refine⟨⟨⟨?_,?_⟩,?_⟩,?_⟩<;>(rintro rfl;simp at ha)
 all_goals (rintro rfl;simp at ha)
theorem abj {s:B}(h:nameB s=true):s≠[]:=by
 rintro rfl
 revert h
 decide
theorem qI {s:B}(h:nameB s=true):bV s=true:=by simp only[bV,anT,Bool.not_eq_true',List.isEmpty_eq_false_iff,an5];exact⟨abj h,fun c hc=>(XT h c hc).1⟩
theorem Fb {s:B}(h:nameB s=true)(e:Int):bD e s=e:=by rw[bD,if_neg (by rw[h];simp)]
theorem LW {c:UInt8}{a b:B}(h:∀d∈a,d≠c):dh c (a++c::b)=a/\dM c (a++c::b)=b:=by
 induction a with
 |nil=>simp[dh,dM]
 |cons d r ih=>
  obtain⟨i1,i2⟩:=ih (fun x hx=>h x (by simp[hx]));have hd:(d !=c)=true:=by simpa using h d (by simp)
  constructor
  ·show List.takeWhile (· !=c) (d::(r++c::b))=_;rw[List.takeWhile_cons_of_pos (p:=fun x=>x !=c) hd];exact congrArg _ i1
  show(List.dropWhile (· !=c) (d::(r++c::b))).drop 1=_;rw[List.dropWhile_cons_of_pos (p:=fun x=>x !=c) hd];exact i2
theorem Xq {c:UInt8}{a:B}(h:∀d∈a,d≠c):dh c a=a/\dM c a=[]:=by
 induction a with
 |nil=>simp[dh,dM]
 |cons d r ih=>
  obtain⟨i1,i2⟩:=ih (fun x hx=>h x (by simp[hx]));have hd:(d !=c)=true:=by simpa using h d (by simp)
  constructor
  ·show List.takeWhile (· !=c) (d::r)=_;rw[List.takeWhile_cons_of_pos (p:=fun x=>x !=c) hd];exact congrArg _ i1
  show(List.dropWhile (· !=c) (d::r)).drop 1=_;rw[List.dropWhile_cons_of_pos (p:=fun x=>x !=c) hd];exact i2
theorem count_none {c:UInt8}{a:B}(h:∀d∈a,d≠c):a.count c=0:=List.count_eq_zero.2 (fun hm=>h c hm rfl)
theorem AC {c:UInt8}{a:B}(h:∀d∈a,d≠c):a.contains c=false:=by rw[<-Bool.not_eq_true,List.contains_iff_mem];exact fun hm=>h c hm rfl
theorem YT:∀k:Fin 39,∃s,opNames[k.val]? =some s/\sJ s=(k.val:Int)+1/\bV s=true/\(∀c∈s,c≠58/\c≠44/\c≠42/\c≠47/\c≠62):=by decide+kernel
theorem Xu (n:Int)(h1:1<=n)(h2:n<=39):sJ (lH n)=n/\bV (lH n)=true/\∀c∈lH n,c≠58/\c≠44/\c≠42/\c≠47/\c≠62:=by
 obtain⟨s,e1,e2,e3,e4⟩:=YT ⟨(n - 1).toNat,by omega⟩;have:lH n=s:=by unfold lH pick;rw[if_neg (by omega)];simp only at e1;rw[e1];rfl
 rw[this];simp only at e2;exact⟨by omega,e3,e4⟩
theorem aal (i:Ins)(h:1<=i.op/\i.op<=39/\N9 i.a)(e:Int):sQ e (dC i)=e/\jW (dC i)=i/\(dC i).count 58<=1/\bV (dC i)=true:=by
 obtain⟨h1,h2,h3⟩:=h;obtain⟨f1,f2,f3⟩:=Xu i.op h1 h2;have hc:∀d∈lH i.op,d≠58:=fun d hd=>(f3 d hd).1
 by_cases h0:i.a=0
 ·have e1:dC i=lH i.op:=by simp[dC,h0]
  obtain⟨c1,c2⟩:=Xq hc;rw[e1,sQ,jW,AC hc,c1,f1,count_none hc];refine⟨?_,?_,by omega,f2⟩
  ·simp;omega
  cases i
  simp_all
 have e1:dC i=lH i.op++58::ah i.a:=by simp[dC,h0]
 obtain⟨c1,c2⟩:=LW (b:=ah i.a) hc;have hm:(lH i.op++58::ah i.a).contains 58=true:=by simp
 have hn:∀d∈ah i.a,d≠58:=fun d hd=>(iV (qH _ d hd)).2.1
 rw[e1,sQ,jW,if_pos hm,if_pos hm,c1,c2,f1,(eG i.a h3).2];refine⟨?_,?_,?_,?_⟩
 ·rw[if_neg (by omega),gU _ h3]
 ·cases i;rfl
 ·rw[List.count_append,List.count_cons,count_none hc,count_none hn];simp
 simp only[bV,anT,Bool.not_eq_true',List.isEmpty_eq_false_iff,an5,anz,anG];refine⟨by simp,fun c hc=> ?_⟩;rcases hc with hc|rfl|hc
 ·exact yu f2 c hc
 ·decide
 exact(iV (qH _ c hc)).1
theorem BD (p:List Ins)(h:mG p)(e:Int):(p.map dC).foldl sQ e=e/\(p.map dC).map jW=p/\xW (p.map dC)=true/\∀w∈p.map dC,bV w=true:=by
 induction p generalizing e with
 |nil=>exact⟨rfl,rfl,rfl,by simp⟩
 |cons i r ih=>
  obtain⟨a1,a2,a3,a4⟩:=aal i (h i (by simp)) e;obtain⟨b1,b2,b3,b4⟩:=ih (fun j hj=>h j (by simp[hj])) e;refine⟨?_,?_,?_,?_⟩
  ·rw[anE,anW,a1,b1]
  ·rw[anE,anE,a2,b2]
  ·unfold xW at b3 ⊢;rw[anE,List.all_cons,b3];simpa using a3
  intro w hw;rw[anE,anG] at hw;rcases hw with rfl|hw
  ·exact a4
  exact b4 w hw
theorem abT (p:Pt)(h:N9 p.x/\N9 p.y)(e:Int):xZ e (jq p)=e/\qR (jq p)=p/\lL (jq p)=true/\bV (jq p)=true:=by
 obtain⟨h1,h2⟩:=h;have n1:∀d∈ah p.x,d≠44:=fun d hd=>(iV (qH _ d hd)).2.2.1
 have n2:∀d∈ah p.y,d≠44:=fun d hd=>(iV (qH _ d hd)).2.2.1
 have s1:∀d∈ah p.x,d≠42:=fun d hd=>(iV (qH _ d hd)).2.2.2.1
 have s2:∀d∈ah p.y,d≠42:=fun d hd=>(iV (qH _ d hd)).2.2.2.1
 have hs:∀d∈ah p.x++44::ah p.y,d≠42:=by
  intro d hd;rw[anz,anG] at hd;rcases hd with hd|rfl|hd
  ·exact s1 d hd
  ·decide
  exact s2 d hd
 obtain⟨c1,c2⟩:=LW (b:=ah p.y) n1;have hcnt:(ah p.x++44::ah p.y).count 44=1:=by rw[List.count_append,List.count_cons,count_none n1,count_none n2];simp
 have htok:∀c∈ah p.x++44::ah p.y,zh c=true:=by
  intro d hd;rw[anz,anG] at hd;rcases hd with hd|rfl|hd
  ·exact(iV (qH _ d hd)).1
  ·decide
  exact(iV (qH _ d hd)).1
 cases hon:p.on with
 |true=>
  have e1:jq p=ah p.x++44::ah p.y:=by simp[jq,hon]
  have hl:(ah p.x++44::ah p.y).getLast? ≠some 42:=fun h=>hs 42 (List.mem_of_getLast? h) rfl
  have hu:dX (ah p.x++44::ah p.y)=ah p.x++44::ah p.y:=by rw[dX,if_neg hl]
  rw[e1,xZ,qR,lL,hu,c1,c2,hcnt,AC hs,gU _ h1,gU _ h2,(eG _ h1).2,(eG _ h2).2];refine⟨rfl,?_,rfl,?_⟩
  ·cases p
   simp_all
  simp only[bV,anT,Bool.not_eq_true',List.isEmpty_eq_false_iff,an5];exact⟨by simp,htok⟩
 |false=>
  have e1:jq p=(ah p.x++44::ah p.y)++[42]:=by simp[jq,hon]
  have hl:((ah p.x++44::ah p.y)++[42]).getLast? =some 42:=List.getLast?_concat;have hu:dX ((ah p.x++44::ah p.y)++[42])=ah p.x++44::ah p.y:=by rw[dX,if_pos hl,List.dropLast_concat]
  have hcnt2:((ah p.x++44::ah p.y)++[42]).count 44=1:=by rw[List.count_append,hcnt];rfl
  have hidx:((ah p.x++44::ah p.y)++[42]).idxOf 42=(ah p.x++44::ah p.y).length:=by rw[List.idxOf_append,if_neg (fun hm=>hs 42 hm rfl)];simp
  rw[e1,xZ,qR,lL,hu,c1,c2,hcnt2,hidx,hl,gU _ h1,gU _ h2,(eG _ h1).2,(eG _ h2).2];refine⟨rfl,?_,?_,?_⟩
  ·cases p
   simp_all
  ·simp
  simp only[bV,anT,Bool.not_eq_true',List.isEmpty_eq_false_iff,an5,anz (s:=ah p.x++44::ah p.y),anu];refine⟨by simp,fun c hc=> ?_⟩;rcases hc with hc|rfl
  ·exact htok c hc
  decide
theorem OM (l:List Pt)(h:∀p∈l,N9 p.x/\N9 p.y)(e:Int):(l.map jq).foldl xZ e=e/\(l.map jq).map qR=l/\(l.map jq).all lL=true/\∀w∈l.map jq,bV w=true:=by
 induction l generalizing e with
 |nil=>exact⟨rfl,rfl,rfl,by simp⟩
 |cons p r ih=>
  obtain⟨a1,a2,a3,a4⟩:=abT p (h p (by simp)) e;obtain⟨b1,b2,b3,b4⟩:=ih (fun q hq=>h q (by simp[hq])) e;refine⟨?_,?_,?_,?_⟩
  ·rw[anE,anW,a1,b1]
  ·rw[anE,anE,a2,b2]
  ·rw[anE,List.all_cons,b3,a3];rfl
  intro w hw;rw[anE,anG] at hw;rcases hw with rfl|hw
  ·exact a4
  exact b4 w hw
def ElT (e t:TypeId)(size:Nat):Prop:=∃i z,Tryz.prog.underlying t=some (.slice e)/\Tryz.prog.info? e=some i/\i.zero=some z/\i.size=size/\z.cells.size=size/\i.bytes<=1000/\0<size
theorem ElT.mk {e t:TypeId}{size:Nat}(ht:Tryz.prog.underlying t=some (.slice e))(h:(Tryz.prog.info? e).map (fun i=>(i.zero.map (fun z=>z.cells.size),i.size,decide (i.bytes<=1000)))=some (some size,size,true))(hs:0<size):ElT e t size:=by obtain⟨i,hi,he⟩:=Option.map_eq_some_iff.1 h;simp only[aoj,aoo] at he;obtain⟨z,hz,hc⟩:=Option.map_eq_some_iff.1 he.1;exact⟨i,z,ht,hi,hz,he.2.1,hc,he.2.2,hs⟩
theorem iL:ElT 3 22 1:= .mk Tryz.underlying22 (by kernel_rfl) (by decide)
theorem Hw:ElT 22 73 1:= .mk Tryz.underlying73 (by kernel_rfl) (by decide)
theorem Dq:ElT 61 57 2:= .mk Tryz.underlying57 (by kernel_rfl) (by decide)
theorem VH:ElT 57 30 1:= .mk Tryz.underlying30 (by kernel_rfl) (by decide)
theorem Z8:ElT 139 51 3:= .mk Tryz.underlying51 (by kernel_rfl) (by decide)
theorem Xd:ElT 87 54 3:= .mk Tryz.underlying54 (by kernel_rfl) (by decide)
theorem YF:ElT 89 55 4:= .mk Tryz.underlying55 (by kernel_rfl) (by decide)
theorem QG:ElT 91 56 4:= .mk Tryz.underlying56 (by kernel_rfl) (by decide)
theorem IQ:ElT 59 24 9:= .mk Tryz.underlying24 (by kernel_rfl) (by decide)
theorem Xi:ElT 93 25 2:= .mk Tryz.underlying25 (by kernel_rfl) (by decide)
theorem Py:ElT 95 74 2:= .mk Tryz.underlying74 (by kernel_rfl) (by decide)
theorem Md:ElT 76 70 6:= .mk Tryz.underlying70 (by kernel_rfl) (by decide)
theorem Oo:ElT 72 26 3:= .mk Tryz.underlying26 (by kernel_rfl) (by decide)
theorem XU:ElT 97 27 2:= .mk Tryz.underlying27 (by kernel_rfl) (by decide)
theorem XR:ElT 99 28 4:= .mk Tryz.underlying28 (by kernel_rfl) (by decide)
theorem NP:ElT 104 29 1:= .mk Tryz.underlying29 (by kernel_rfl) (by decide)
theorem Yo:ElT 101 102 3:= .mk Tryz.underlying102 (by kernel_rfl) (by decide)
theorem ae1:ElT 124 119 3:= .mk Tryz.underlying119 (by kernel_rfl) (by decide)
abbrev Loc (w:World)(v v':Value):Prop:=v'.ownBlock=v.ownBlock\/∀g,v'.ownBlock=some g->w.heap.size<=g
theorem vZ {e t size:Nat}(E:ElT e t size)(ty:TypeId)(w1:World)(base n c:Nat)(A:Option Addr)(xs:List Value)(hown:w1.ownsRow base e size (.slice A n c) n xs)
  (Bd:Nat) (A2:Option Addr) (m c2:Nat) (news:List Value) (hr:Rd w1 Bd A2 m size news) (h1:∀u∈news,u.oneCell'=true) (hn:n+m<=100000000000) (hb:base<=w1.heap.size):
  ∃A' c' w',(Builtin.append_ #[t,t] ty #[.slice A n c,.slice A2 m c2]).run Tryz.prog w1= .ok (.slice A' (n+m) c') w'/\w'.ownsRow base e size (.slice A' (n+m) c') (n+m) (xs++news)/\w1.grownBy w' (Value.slice A n c).ownBlock/\Loc w1 (.slice A n c) (.slice A' (n+m) c'):=by
 obtain⟨i,z,ht,hi,hz,hs,hzs,hby,hsz⟩:=E;have hbytes:(n+m)*i.bytes<=140737488355328:=nt (Nat.mul_le_mul hn hby) (by decide);obtain⟨v',w',hrun,ho,hg,hl⟩:=oQ (P:=Tryz.prog) w1 base t ty e i z size i.bytes ht hi hz hs rfl hzs hsz (.slice A n c) n xs hown Bd A2 m c2 news hr h1 (by simp only[maxLen];omega) hbytes hb;obtain⟨A',c',rfl⟩:=gY ho;refine⟨A',c',w',hrun,ho,hg,?_⟩;rcases hl with hl|hl
 ·exact .inl hl
 exact .inr (fun g e=>by rw[hl] at e;injection e with e;omega)
section
variable {e t size:Nat} {ops:Array Oper} {rest:List Oper} {o:Oper} {a:Act} {Q:Exit->Act->World->Prop}
theorem Gw (E:ElT e t size)(hgd:o.guard=none)(s x:Operand)(ho:o.op= .call {callee:= .builtin .append,args:= #[s,x],argTypes:= #[t,t]})
  (w1:World) (base n c:Nat) (A:Option Addr) (xs:List Value) (Bd:Nat) (A2:Option Addr) (m c2:Nat) (news:List Value) (hs:a.eval s= .slice A n c) (hx:a.eval x= .slice A2 m c2)
  (hown:w1.ownsRow base e size (.slice A n c) n xs) (hr:Rd w1 Bd A2 m size news) (h1:∀u∈news,u.oneCell'=true) (hn:n+m<=100000000000) (hb:base<=w1.heap.size)
  (h:∀A' c' w',w'.ownsRow base e size (.slice A' (n+m) c') (n+m) (xs++news)->w1.grownBy w' (Value.slice A n c).ownBlock->Loc w1 (.slice A n c) (.slice A' (n+m) c')->wpList Tryz.prog ops Q rest (a.put o.dst (.slice A' (n+m) c')) w'):
  wpList Tryz.prog ops Q (o::rest) a w1:=by
 obtain⟨A',c',w',hrun,h2,h3,h4⟩:=vZ E o.type w1 base n c A xs hown Bd A2 m c2 news hr h1 hn hb;refine wpList_plain hgd fun K hK=> ?_
 unfold Oper.wp execOp;simp only[ho,resolve,invoke,builtin,Sem.run_bind,Sem.run_pure,Result.andThen_ok,List.map_toArray,anE,aoi,hs,hx,hrun];exact hK _ _ (h A' c' w' h2 h3 h4)
theorem iP (E:ElT e t size)(hgd:o.guard=none)(s x:Operand)(ho:o.op= .call {callee:= .builtin .append,args:= #[s,x],argTypes:= #[t,t]})
  (w1:World) (hsz:Nat) (hh:w1.heap.size=hsz) (base n c:Nat) (A:Option Addr) (xs:List Value) (news:Array Value) (hnl:news.size=size) (hs:a.eval s= .slice A n c) (hx:a.eval x= .slice (some ⟨hsz,0,none⟩) 1 1)
  (hown:w1.ownsRow base e size (.slice A n c) n xs) (h1:∀u∈news.toList,u.oneCell'=true) (hn:n<=10000000000) (hb:base<=w1.heap.size)
  (h:∀A' c' w',w'.ownsRow base e size (.slice A' (n+1) c') (n+1) (xs++news.toList)->w1.grownBy w' (Value.slice A n c).ownBlock->Loc w1 (.slice A n c) (.slice A' (n+1) c')->wpList Tryz.prog ops Q rest (a.put o.dst (.slice A' (n+1) c')) w'):
  wpList Tryz.prog ops Q (o::rest) a (w1.alloc (.cells news e)):=by
 subst hh;refine Gw E hgd s x ho _ base n c A xs (w1.heap.size+1) (some ⟨w1.heap.size,0,none⟩) 1 1 news.toList hs hx (hown.alloc _) (Rd.newAt _ _ rfl news e 1 size (by omega)) h1 (by omega) (by simp;omega) ?_;intro A' c' w' h2 h3 h4;refine h A' c' w' h2 ⟨h3.os,h3.tape,h3.output,nt (by simp) h3.size,fun i hi hne=> ?_⟩ (h4.imp id fun h5 g hg=>by have:=h5 g hg;simp at this;omega);exact(h3.block i (by simp;omega) hne).trans (Below.heap_alloc _ _ _ hi)
end
end
section
def PrC (w:World)(g:Nat)(fc:Nat->Value)(ad v:Value):Prop:=Bk w g 130 #[fc 0,fc 1,fc 2,fc 3,fc 4,fc 5,fc 6,fc 7,fc 8,ad,v]
def Pr (w:World)(Bd g:Nat)(fc:Nat->Value)(txt:B):Prop:=∃ad v,Bd<=g/\PrC w g fc ad v/\(ad= .pointer none\/ad= .pointer (some ⟨g,9,none⟩))/\w.ownsRow Bd 5 1 v txt.length (Lib.byteCells txt)
def PrU (w:World)(Bd g:Nat)(fc:Nat->Value)(txt:B):Prop:=∃v,Bd<=g/\PrC w g fc (.pointer (some ⟨g,9,none⟩)) v/\w.ownsRow Bd 5 1 v txt.length (Lib.byteCells txt)
theorem PrU.pr {w:World}{Bd g:Nat}{fc:Nat->Value}{txt:B}(h:PrU w Bd g fc txt):Pr w Bd g fc txt:=by obtain⟨v,h1,h2,h3⟩:=h;exact⟨_,v,h1,h2,.inr rfl,h3⟩
theorem Pr.lt {w:World}{Bd g:Nat}{fc:Nat->Value}{txt:B}(h:Pr w Bd g fc txt):Bd<=g/\g<w.heap.size:=by obtain⟨ad,v,h1,h2,-⟩:=h;exact⟨h1,Bk.lt h2⟩
theorem afC {w:World}{g g':Nat}{t t':TypeId}{cs cs':Array Value}(h:Bk w g t cs)(h':Bk w g' t' cs')(hne:t≠t'):g≠g':=by
 rintro rfl;have a1:w.heap[g]? =_:=h;have a2:w.heap[g]? =_:=h';rw[a1] at a2;injection a2 with a3
 injection a3 with _ a4
 exact hne a4
theorem Ip {w:World}{base:Nat}{e t:TypeId}{s:Nat}{v:Value}{n:Nat}{xs:List Value}(h:w.ownsRow base e s v n xs){g:Nat}{cs:Array Value}(hb:Bk w g t cs)(hne:e≠t):v.ownBlock≠some g:=by intro e';obtain⟨cur,hk⟩:=iG h g e';exact afC hk hb hne rfl
theorem Aj {w:World}{base:Nat}{e t:TypeId}{s:Nat}{v:Value}{n:Nat}{xs:List Value}(h:w.ownsRow base e s v n xs){g:Nat}{cs:Array Value}(hb:Bk w g t cs)(hne:e≠t)(i:Nat)(u:Value):(w.setCell ⟨g,i,none⟩ u).ownsRow base e s v n xs:=h.kept (row:=some g) (aU (p:=⟨g,i,none⟩) (World.grownBy.refl _ _) (.inl rfl) _) (.inr (Ip h hb hne))
theorem KP.store {w:World}{g:Nat}{cs:Array Value}(h:Bk w g 130 cs)(i:Nat)(u:Value):KP w (w.setCell ⟨g,i,none⟩ u):=
 ⟨fun b o hb hn=>by
  refine(Below.heap_setCell w ⟨g,i,none⟩ u b ?_).trans hb;rintro rfl;have h1:w.heap[b]? =_:=h;rw[h1] at hb;injection hb with hb
  subst hb;exact hn.2 rfl,by simp⟩
theorem KP.grown {w w':World}{base n:Nat}{v:Value}{xs:List Value}(ho:w.ownsRow base 5 1 v n xs)(hg:w.grownBy w' v.ownBlock):KP w w':=
 ⟨fun b o hb hn=>by
  refine(hg.block b (anx.1 hb).1 ?_).trans hb;intro e;obtain⟨cur,hk⟩:=iG ho b e.symm;have h1:w.heap[b]? =_:=hk;rw[h1] at hb;injection hb with hb
  subst hb;exact hn.1 rfl,hg.size⟩
theorem infoByte:(Tryz.prog.info? 5).map (fun i=>(i.zero,i.size,i.bytes))=some (some (.int .u8 0),1,1):=by kernel_rfl
theorem sizeBuilder:(Tryz.prog.info? 128).map (fun i=>i.size)=some 2:=by kernel_rfl
theorem liesBuilder:liesAt Tryz.prog Tryz.prog.depth 130 (11 / Tryz.prog.cellsOf 130) 9 128 1=true:=by kernel_rfl
theorem PrC.shape {w:World}{g:Nat}{fc:Nat->Value}{ad v:Value}(h:PrC w g fc ad v):w.shape? g=some (130,11):=by unfold PrC Bk at h;simp[World.shape?,h]
theorem Uf (g:Nat)(w:World)(h0:w.cell? ⟨g,9,none⟩=some (.pointer (some ⟨g,9,none⟩))):
  Calls Tryz.prog 140 #[.pointer (some ⟨g,9,none⟩)] w fun e w'=>e= .returned (.tuple #[])/\w=w':=by
 obtain⟨j,hj,_⟩:=Option.map_eq_some_iff.1 sizeBuilder;go_enter Tryz.func140,Tryz.ntmps140
 go_wp2;rw[Lib.run_neq_ptr_same w _ Tryz.underlying126 hj];go_wp2
 go_end0
 exact⟨rfl,rfl⟩
theorem Qm (g:Nat)(w:World)(fc:Nat->Value)(v:Value)(h:PrC w g fc (.pointer none) v):
  Calls Tryz.prog 140 #[.pointer (some ⟨g,9,none⟩)] w fun e w'=>e= .returned (.tuple #[])/\w'=w.setCell ⟨g,9,none⟩ (.pointer (some ⟨g,9,none⟩)):=by
 obtain⟨j,hj,hjs⟩:=Option.map_eq_some_iff.1 sizeBuilder;have h0:w.cell? ⟨g,9,none⟩=some (.pointer none):=h.cell 9;have hfz:w.frozen? ⟨g,9,none⟩=false:=h.frozen 9;have hsh:=h.shape;go_enter Tryz.func140,Tryz.ntmps140
 go_wp2;rw[Lib.run_to_unsafe w ⟨g,9,none⟩ Tryz.underlying126 Tryz.underlying246 hj (by rw[hjs];decide) hsh (show 9<11 by decide)];simp only[Result.andThen];rw[Oper.upon_value];go_wp2;rw[run_callFunc_extern Tryz.func175 (by kernel_rfl) (by kernel_rfl) (by kernel_rfl) (e:=Extern.AbiNoEscape.same) (by kernel_rfl)];rw[Lib.run_noEscape];simp only[Result.andThen];rw[Oper.upon_value];go_wp2;rw[Lib.run_from_unsafe w ⟨g,9,none⟩ Tryz.underlying246 Tryz.underlying126 hj hsh liesBuilder];simp only[Result.andThen];rw[Oper.upon_value];go_wp2
 go_end0
 exact⟨rfl,rfl⟩
theorem Ph (w:World)(Bd g:Nat)(fc:Nat->Value)(txt:B)(h:Pr w Bd g fc txt):
  Calls Tryz.prog 140 #[.pointer (some ⟨g,9,none⟩)] w fun e w'=>e= .returned (.tuple #[])/\PrU w' Bd g fc txt/\KP w w'/\Below Bd w w':=by
 obtain⟨ad,v,h1,h2,h3|h3,h4⟩:=h
 ·subst h3;refine(Qm g w fc v h2).mono ?_;rintro e w' ⟨rfl,rfl⟩;refine⟨rfl,⟨v,h1,?_,Aj h4 h2 (by decide) _ _⟩,KP.store h2 _ _,(ant _ _).setCell (p:=⟨g,9,none⟩) h1 _⟩;have:=Bk.set h2 9 (.pointer (some ⟨g,9,none⟩));exact this
 subst h3;refine(Uf g w (Bk.cell h2 9)).mono ?_;rintro e w' ⟨rfl,rfl⟩;exact⟨rfl,⟨v,h1,h2,h4⟩,KP.refl _,ant _ _⟩
theorem AZ (a b:B):Lib.byteCells (a++b)=Lib.byteCells a++Lib.byteCells b:=by simp[Lib.byteCells]
theorem CE (w:World)(Bd g:Nat)(fc:Nat->Value)(txt:B)(c:UInt8)(h:Pr w Bd g fc txt)(hlen:txt.length<=1000000000000):
  Calls Tryz.prog 92 #[.pointer (some ⟨g,9,none⟩),.int .u8 c.toNat] w fun e w'=>e= .returned .nilIface/\Pr w' Bd g fc (txt++[c])/\KP w w'/\Below Bd w w':=by
 obtain⟨i0,hi,hz0,hz1,hz2⟩:=info_parts infoByte;have hlt:=h.lt;go_enter Tryz.func92,Tryz.ntmps92
 go_wp2_with (go_at_call 140;refine(Ph _ Bd g fc txt h).mono ?_)
 rintro e w1 ⟨rfl,⟨v,hB,hbk,hown⟩,hk1,hb1⟩;have hs1:=hb1.size;have c1:w1.cell? ⟨g,10,none⟩=some v:=Bk.cell hbk 10;go_wp2_with (at_builtin;refine wpList_append_own _ rfl _ _ 68 rfl Bd 5 i0 (.int .u8 0) 1 1 Tryz.underlying68 hi hz0 hz1 hz2 rfl (by decide) _ _ _ rfl (hown.alloc _) ⟨w1.heap.size,0,none⟩ 1 1 [.int .u8 c.toNat] rfl rfl ?c1 ?c2 ?c3 ?c4 ?c5 ?_)
 case c1=>
  intro j u hj
  match j,hj with
  |0,hj=>simp at hj;subst hj;simp[Addr.add]
 case c2=>intro u hu;simp at hu;subst hu;rfl
 case c3=>unfold maxLen;omega
 case c4=>omega
 case c5=>simp;omega
 intro v' w2 hown' hgrow _;have hlt1:=Bk.lt hbk;have ahP:=Bk.alloc hbk (.cells #[.int .u8 c.toNat] 5);have hbk2:PrC w2 g fc (.pointer (some ⟨g,9,none⟩)) v:=(hgrow.block g (by simp;omega) (fun e=>Ip hown hbk (by decide) e.symm)).trans ahP;have d1:w2.cell? ⟨g,10,none⟩=some v:=Bk.cell hbk2 10;have f1:w2.frozen? ⟨g,10,none⟩=false:=Bk.frozen hbk2 10;have HB:=hd0 hbk2;obtain⟨g',cap,rfl⟩:∃g' cap,v'= .slice (some ⟨g',0,none⟩) (txt.length+1) cap:=by
  rcases hown'.2 with⟨_,h0⟩|⟨g',cap,cur,hv,_⟩
  ·omega
  exact⟨g',cap,hv⟩
 go_wp2;go_ret
 refine⟨rfl,⟨_,_,hB,Bk.set HB.out 10 _,.inr rfl,?_⟩,?_,?_⟩
 ·refine Aj ?_ HB.out (by decide) _ _;rw[AZ,la];simpa [Lib.byteCells] using hown'
 ·exact((hk1.trans (KP.alloc _ _)).trans (KP.grown (hown.alloc _) hgrow)).trans (KP.store HB.out _ _)
 exact((hb1.alloc (by omega) _).grown hgrow (by simp;omega) (fun k hk=>(hown.lt k hk).1)).setCell (p:=⟨g,10,none⟩) hB _
theorem yE (w:World)(Bd g:Nat)(fc:Nat->Value)(txt s:B)(h:Pr w Bd g fc txt)(hlen:txt.length+s.length<=1000000000000):
  Calls Tryz.prog 91 #[.pointer (some ⟨g,9,none⟩),.string ⟨s.toArray⟩] w fun e w'=>e= .returned (.tuple #[.int .i64 s.length,.nilIface])/\Pr w' Bd g fc (txt++s)/\KP w w'/\Below Bd w w':=by
 obtain⟨i0,hi,hz0,hz1,hz2⟩:=info_parts infoByte;have hlt:=h.lt;go_enter Tryz.func91,Tryz.ntmps91
 go_wp2_with (go_at_call 140;refine(Ph _ Bd g fc txt h).mono ?_)
 rintro e w1 ⟨rfl,⟨v,hB,hbk,hown⟩,hk1,hb1⟩;have hs1:=hb1.size;have c1:w1.cell? ⟨g,10,none⟩=some v:=Bk.cell hbk 10;go_wp2_with (at_builtin;refine Lib.wpList_append_own_string _ rfl _ _ 68 9 rfl Bd 5 i0 Tryz.underlying68 Tryz.underlying9 hi hz0 hz1 hz2 _ _ _ rfl hown ⟨s.toArray⟩ rfl ?c3 ?c4 ?c5 ?_)
 case c3=>
  have e:(⟨s.toArray⟩:ByteArray).size=s.length:=by rfl
  rw[e];unfold maxLen;omega
 case c4=>
  have e:(⟨s.toArray⟩:ByteArray).size=s.length:=by rfl
  rw[e];omega
 case c5=>omega
 intro v' w2 hown' hgrow _;have hlt1:=Bk.lt hbk;have hbk2:PrC w2 g fc (.pointer (some ⟨g,9,none⟩)) v:=(hgrow.block g hlt1 (fun e=>Ip hown hbk (by decide) e.symm)).trans hbk;have d1:w2.cell? ⟨g,10,none⟩=some v:=Bk.cell hbk2 10;have f1:w2.frozen? ⟨g,10,none⟩=false:=Bk.frozen hbk2 10;have HB:=hd0 hbk2;obtain⟨ao,n',cap,rfl⟩:∃ao n' cap,v'= .slice ao n' cap:=by
  rcases hown'.2 with⟨hv,_⟩|⟨g',cap,cur,hv,_⟩
  ·exact⟨_,_,_,hv⟩
  exact⟨_,_,_,hv⟩
 go_wp2
 go_ret2
 refine⟨rfl,⟨_,_,hB,Bk.set HB.out 10 _,.inr rfl,?_⟩,?_,?_⟩
 ·refine Aj ?_ HB.out (by decide) _ _;rw[AZ,la];have e:Lib.strCells ⟨s.toArray⟩=Lib.byteCells s:=by simp[Lib.strCells,Lib.byteCells]
  rw[e] at hown';simpa using hown'
 ·exact(hk1.trans (KP.grown hown hgrow)).trans (KP.store HB.out _ _)
 exact(hb1.grown hgrow (by omega) (fun k hk=>(hown.lt k hk).1)).setCell (p:=⟨g,10,none⟩) hB _
theorem Ti (w:World)(Bd g:Nat)(fc:Nat->Value)(l:B)(h:Pr w Bd g fc l)(h0:l≠[]):
  Calls Tryz.prog 49 #[.pointer (some ⟨g,9,none⟩)] w fun e w'=>e= .returned (.string ⟨l.toArray⟩)/\Below Bd w w':=by
 obtain⟨ad,v,hB,hbk,-,hown⟩:=h;have hl0:l.length≠0:=by simpa using h0
 obtain⟨q,cap,cur,rfl,hbg,hg,hnc,hcm,hcs,htake⟩:∃q cap cur,v= .slice (some ⟨q,0,none⟩) l.length cap/\Bd<=q/\w.heap[q]? =some (.cells cur 5 (0,0))/\l.length<=cap/\cap<=maxLen/\cur.size=cap*1/\cur.toList.take (l.length*1)=Lib.byteCells l:=by
  rcases hown.2 with⟨_,hz⟩|⟨q,cap,cur,hv,r⟩
  ·exact absurd hz hl0
  exact⟨q,cap,cur,hv,r⟩
 have c1:w.drew.cell? ⟨g,10,none⟩=some (.slice (some ⟨q,0,none⟩) l.length cap):=Bk.cell hbk 10;have hSD:(Builtin.unsafeSliceData_ #[68] 173 #[.slice (some ⟨q,0,none⟩) l.length cap]).run Tryz.prog w.drew= .ok (.pointer (some ⟨q,0,none⟩)) w.drew:=Lib.run_unsafeSliceData_row _ _ _ _ _ _ (by omega);have hUS:(Builtin.unsafeString_ #[173,3] 9 #[.pointer (some ⟨q,0,none⟩),.int .i64 l.length]).run Tryz.prog w.drew= .ok (.string ⟨l.toArray⟩) (w.drew.freeze ⟨q,0,none⟩ l.length):=by refine Lib.run_unsafeString_row w.drew 173 3 9 5 Tryz.underlying173 (by kernel_rfl) q cur.size (by have hg':w.drew.heap[q]? =some (.cells cur 5 (0,0)):=hg;simp[World.shape?,hg']) l h0 (by omega) (by unfold maxLen at hcm;omega) ?_;intro j x hx;have:=hown.cells (g:=q) rfl j (.int .u8 x.toNat) (by simp[Lib.byteCells,hx]);exact this
 go_enter Tryz.func49,Tryz.ntmps49
 go_wp2;go_region
 all_goals (go_wp2;go_ret;exact⟨rfl,Lib.below_freeze (Below.drew (ant Bd w)) (p:=⟨q,0,none⟩) hbg _⟩)
end
end Go.Proofs.YtkijckccfookeaaGreatDoor
