/- Lemmas. -/
import Derived.Test.YtkijckccfookeaaGreatDoorV38
set_option linter.unusedVariables false
set_option linter.unusedSimpArgs false
namespace Go.Proofs.YtkijckccfookeaaGreatDoor
open Go.RowKit
def wG (g:anP):Nat:=g.name.length+10+3*g.points.length+g.ends.length+3*g.parts.length+4*g.anchors.length+4*g.deltas.length+2*g.hint.length
def wRow (l:List Int):Nat:=1+l.length
def yl (l:List (List Int)):Nat:=1+(l.map wRow).sum
def wR (r:aom):Nat:=yl r.back+yl r.in'+yl r.ahead+wRow r.out+(1+2*r.calls.length)+1
def wL (l:Lookup):Nat:=3+(l.rules.map wR).sum
def KD (x:aon):Nat:=x.name.length+2+wRow x.anM
def wA (a:aoA):Nat:=a.name.length+5
def Lu (r:Region):Nat:=1+3*r.anT.length
def wC (p:List Ins):Nat:=1+2*p.length
def wF (f:Fnt):Nat:=9+(f.anL.map wG).sum+2*f.chars.length+(f.anM.map wL).sum+(f.features.map KD).sum+(f.anR.map wA).sum+(f.regions.map Lu).sum+(f.funcs.map wC).sum+f.cvt.length
theorem bW {n:Int}(h:I64 n):(ai n).length<=21:=nH n (by unfold I64 at h;omega)
theorem uH {α:Type}(l:List α)(c:α->Nat)(h:∀x∈l,1<=c x):l.length<=(l.map c).sum:=by
 induction l with
 |nil=>simp
 |cons a r ih=>rw[aqv,aq3,ay];have:=h a (by simp);have:=ih (fun x hx=>h x (by simp[hx]));omega
theorem ady {α:Type}(l:List α)(p:α->B)(c:α->Nat)(h:∀x∈l,(p x).length<=21*c x):(l.flatMap p).length<=21*(l.map c).sum:=by
 induction l with
 |nil=>simp
 |cons a r ih=>rw[aqD,az,aqv,aq3];have:=h a (by simp);have:=ih (fun x hx=>h x (by simp[hx]));omega
theorem oK {α:Type}(l:List α)(p:α->B)(c:α->Nat)(hl:l.length<=1000000000000000000)(h:∀x∈l,(p x).length<=21*c x):(ai (l.length:Int)++l.flatMap p).length<=21*(1+(l.map c).sum):=by have h1:=ady l p c h;have h2:(ai (l.length:Int)).length<=21:=nH _ (by omega);rw[az];omega
theorem ahR {α:Type}(l:List α)(k:Nat):(l.map (fun _=>k)).sum=k*l.length:=by
 induction l with
 |nil=>rfl
 |cons a r ih=>rw[aqv,aq3,ih,ay,Nat.mul_add];omega
theorem pU {α:Type}(l:List α)(p:α->B)(k:Nat)(hl:l.length<=1000000000000000000)(h:∀x∈l,(p x).length<=21*k):(ai (l.length:Int)++l.flatMap p).length<=21*(1+k*l.length):=by
 have:=oK l p (fun _=>k) hl h
 rwa [ahR] at this
theorem qI {α:Type}(l:List α)(c:α->Nat){x:α}(h:x∈l):c x<=(l.map c).sum:=by
 induction l with
 |nil=>simp at h
 |cons a r ih=>
  rw[aqv,aq3];rw[aqx] at h;rcases h with rfl|h
  ·omega
  have:=ih h;omega
theorem CE {l:List Int}(hl:l.length<=1000000000000000000)(h:∀n∈l,I64 n):(rowB l).length<=21*wRow l:=by have:=pU l ai 1 hl (fun n hn=>by have:=bW (h n hn);omega);unfold rowB wRow;omega
theorem IE {l:List (List Int)}(hl:yl l<=1000000000000000000)(h:∀s∈l,∀n∈s,I64 n):(jT l).length<=21*yl l:=by have h0:=uH l wRow (fun x _=>by unfold wRow;omega);unfold yl at hl;exact oK l rowB wRow (by omega) (fun s hs=>CE (by have:=qI l wRow hs;unfold wRow at this hl;omega) (h s hs))
theorem EF {s:B}(hl:s.length<=1000000000000000000):(oN s).length<=21*(s.length+2):=by have h2:(ai (s.length:Int)).length<=21:=nH _ (by omega);unfold oN;simp only[az,ay,ln];omega
theorem Sl.all {α:Type}{R:Rel α}{size:Nat}{w:World}{S:Bs}{A:Option Addr}{xs:List α}(h:Sl R size w S A xs):∀x∈xs,∃cs,R w S cs x:=fun x hx=>by
 obtain⟨k,hk,rfl⟩:=List.getElem_of_mem hx;obtain⟨b,o,y,cs,e,hb,hy,hr,-,hc⟩:=h.get hk;have hy':xs[k]? =some y:=hy;rw[aqn hk,aqM] at hy';exact⟨cs,hy' ▸ hr⟩
theorem aaA {w:World}{S:Bs}{cs:List Value}{g:anP}(h:anS w S cs g)(hl:wG g<=1000000000000000000):(dS g).length<=21*wG g:=by
 obtain⟨A3,c3,A4,c4,A5,c5,A6,c6,A7,c7,A8,c8,-,r1,h3,h4,h5,h6,h7,h8⟩:=h;unfold wG at hl ⊢;have k1:=EF (s:=g.name) (by omega);have k2:=bW r1;have k3:=ww g.mark;have k4:=pU g.points oU 3 (by omega) (fun x hx=>by
  obtain⟨_,-,a,b⟩:=h3.all x hx;have:=bW a;have:=bW b;have:=ww x.on;unfold oU;simp only[az];omega)
 have k5:=CE (l:=g.ends) (by omega) (fun x hx=>by obtain⟨_,-,a⟩:=h4.all x hx;exact a);have k6:=pU g.parts iP 3 (by omega) (fun x hx=>by
  obtain⟨_,-,a,b,c⟩:=h5.all x hx;have:=bW a;have:=bW b;have:=bW c;unfold iP;simp only[az];omega)
 have k7:=pU g.anchors iJ 4 (by omega) (fun x hx=>by
  obtain⟨_,-,a,b,c,d⟩:=h6.all x hx;have:=bW a;have:=bW b;have:=bW c;have:=bW d;unfold iJ;simp only[az];omega)
 have k8:=pU g.deltas kz 4 (by omega) (fun x hx=>by
  obtain⟨_,-,a,b,c,d⟩:=h7.all x hx;have:=bW a;have:=bW b;have:=bW c;have:=bW d;unfold kz;simp only[az];omega)
 have k9:=pU g.hint mr 2 (by omega) (fun x hx=>by
  obtain⟨_,-,a,b⟩:=h8.all x hx;have:=bW a;have:=bW b;unfold mr;simp only[az];omega)
 unfold wRow at k5;unfold dS Vx Gg FK Ou eU;rw[az] at k4 k6 k7 k8 k9;simp only[az];omega
theorem adH {w:World}{S:Bs}{cs:List Value}{r:aom}(h:an7 w S cs r)(hl:wR r<=1000000000000000000):(gX r).length<=21*wR r:=by
 obtain⟨A0,c0,A1,c1,A2,c2,A3,c3,A4,c4,-,r5,h0,h1,h2,h3,h4⟩:=h;unfold wR at hl ⊢;have all:∀ {A:Option Addr} {xs:List (List Int)},Sl anN 1 w S A xs->∀s∈xs,∀n∈s,I64 n:=fun hx s hs n hn=>by
  obtain⟨_,B,c,-,h⟩:=hx.all s hs;obtain⟨_,-,a⟩:=h.all n hn;exact a
 have k1:=IE (l:=r.back) (by omega) (all h0);have k2:=IE (l:=r.in') (by omega) (all h1);have k3:=IE (l:=r.ahead) (by omega) (all h2);have k4:=CE (l:=r.out) (by unfold wRow at hl;omega) (fun x hx=>by obtain⟨_,-,a⟩:=h3.all x hx;exact a);have k5:=pU r.calls iK 2 (by omega) (fun x hx=>by
  obtain⟨_,-,a,b⟩:=h4.all x hx;have:=bW a;have:=bW b;unfold iK;simp only[az];omega)
 have k6:=bW r5;unfold gX CW;rw[az] at k5;simp only[az];omega
theorem ac2 {w:World}{S:Bs}{cs:List Value}{l:Lookup}(h:anV w S cs l)(hl:wL l<=1000000000000000000):(fP l).length<=21*wL l:=by
 obtain⟨A2,c2,-,r0,h2⟩:=h;unfold wL at hl ⊢;have h0:=uH l.rules wR (fun x _=>by unfold wR;omega);have k1:=oK l.rules gX wR (by omega) (fun x hx=>by
  obtain⟨_,hr⟩:=h2.all x hx;exact adH hr (by have:=qI l.rules wR hx;omega))
 have k2:=bW r0;have k3:=ww l.aol;unfold fP Gm;rw[az] at k1;simp only[az];omega
theorem abS {w:World}{S:Bs}{cs:List Value}{f:Fnt}(h:an4 w S cs f)(hl:wF f<=1000000000000000000):(jO f).length<=21*wF f:=by
 obtain⟨A1,c1,A2,c2,A3,c3,A4,c4,A5,c5,A6,c6,A7,c7,A8,c8,-,r0,h1,h2,h3,h4,h5,h6,h7,h8⟩:=h;unfold wF at hl ⊢;have g1:=uH f.anL wG (fun x _=>by unfold wG;omega);have g3:=uH f.anM wL (fun x _=>by unfold wL;omega);have g4:=uH f.features KD (fun x _=>by unfold KD;omega);have g5:=uH f.anR wA (fun x _=>by unfold wA;omega);have g6:=uH f.regions Lu (fun x _=>by unfold Lu;omega);have g7:=uH f.funcs wC (fun x _=>by unfold wC;omega);have k0:=bW r0;have k1:=oK f.anL dS wG (by omega) (fun x hx=>by
  obtain⟨_,hr⟩:=h1.all x hx;exact aaA hr (by have:=qI f.anL wG hx;omega))
 have k2:=pU f.chars jZ 2 (by omega) (fun x hx=>by
  obtain⟨_,-,a,b⟩:=h2.all x hx;have:=bW a;have:=bW b;unfold jZ;simp only[az];omega)
 have k3:=oK f.anM fP wL (by omega) (fun x hx=>by
  obtain⟨_,hr⟩:=h3.all x hx;exact ac2 hr (by have:=qI f.anM wL hx;omega))
 have k4:=oK f.features iL KD (by omega) (fun x hx=>by
  obtain⟨_,A,c,-,hr⟩:=h4.all x hx;have hm:KD x<=1000000000000000000:=nt (qI f.features KD hx) (by omega);unfold KD wRow at hm ⊢;have a:=EF (s:=x.name) (by omega);have b:=CE (l:=x.anM) (by omega) (fun y hy=>by obtain⟨_,-,a⟩:=hr.all y hy;exact a);unfold wRow at b;unfold iL;simp only[az];omega)
 have k5:=oK f.anR iM wA (by omega) (fun x hx=>by
  obtain⟨_,-,a,b,c⟩:=h5.all x hx;have hm:wA x<=1000000000000000000:=nt (qI f.anR wA hx) (by omega);unfold wA at hm ⊢;have:=EF (s:=x.name) (by omega);have:=bW a;have:=bW b;have:=bW c;unfold iM;simp only[az];omega)
 have k6:=oK f.regions lF Lu (by omega) (fun x hx=>by
  obtain⟨_,A,c,-,hr⟩:=h6.all x hx;have hm:Lu x<=1000000000000000000:=nt (qI f.regions Lu hx) (by omega);unfold Lu at hm ⊢;exact pU x.anT jl 3 (by omega) (fun y hy=>by
   obtain⟨_,-,a,b,c⟩:=hr.all y hy;have:=bW a;have:=bW b;have:=bW c;unfold jl;simp only[az];omega))
 have k7:=oK f.funcs eU wC (by omega) (fun x hx=>by
  obtain⟨_,A,c,-,hr⟩:=h7.all x hx;have hm:wC x<=1000000000000000000:=nt (qI f.funcs wC hx) (by omega);unfold wC at hm ⊢;exact pU x mr 2 (by omega) (fun y hy=>by
   obtain⟨_,-,a,b⟩:=hr.all y hy;have:=bW a;have:=bW b;unfold mr;simp only[az];omega))
 have k8:=CE (l:=f.cvt) (by omega) (fun x hx=>by obtain⟨_,-,a⟩:=h8.all x hx;exact a);unfold wRow at k8;unfold jO Eb Oi GR Ib Ov Oq Hl;rw[az] at k1 k2 k3 k4 k5 k6 k7;simp only[az];omega
def IU (s:PS):Prop:=∀c∈s.cls,c.2.length<=1000
def dE (l:List B):Nat:=2000000*(l.length+1)
theorem Kw {gl:Gl}{cls:List (B×List Int)}{l:List B}:∀ {acc c:List Int},acc.length<=1000->kZ gl cls acc l= .ok c->c.length<=1000:=by
 induction l with
 |nil=>intro acc c ha h;simp only[kZ,ara] at h;subst h;exact ha
 |cons t r ih=>
  intro acc c ha h;rw[kZ] at h;split at h
  ·cases h
  split at h
  ·cases h
  exact ih (by omega) h
theorem AA {gl:Gl}{cls:List (B×List Int)}{L:List (List B)}:∀ {x:List (List Int)},jg gl cls L= .ok x->x.length=L.length/\∀c∈x,c.length<=1000:=by
 induction L with
 |nil=>intro x h;simp only[jg,ara] at h;subst h;simp
 |cons t r ih=>
  intro x h;rw[jg] at h;split at h
  ·cases h
  rename_i y hy;split at h
  ·cases h
  rename_i ys hys;simp only[ara] at h;subst h;obtain⟨h1,h2⟩:=ih hys;refine⟨by simp[h1],fun c hc=> ?_⟩;rw[aqx] at hc;rcases hc with rfl|hc
  ·exact Kw (by simp) hy
  exact h2 c hc
theorem yC (l:List B):∀(op:Bool) (row:List B) (told o:List (List B)),fE op row told l=some o->o.length<=told.length+l.length:=by
 induction l with
 |nil=>
  intro op row told o h;rw[fE] at h;split at h
  ·cases h
  cases h;simp
 |cons t r ih=>
  intro op row told o h;rw[fE] at h;rw[ay];split at h
  ·split at h
   ·cases h
   have:=ih _ _ _ _ h;omega
  split at h
  ·split at h
   ·have:=ih _ _ _ _ h;simp at this;omega
   cases h
  split at h
  ·have:=ih _ _ _ _ h;omega
  have:=ih _ _ _ _ h;simp at this;omega
theorem SS (l:List B):∀(n:Nat) (cur:List B) (told o:List (List B)) (k:Nat),cur.length+l.length<=k->(∀p∈told,p.length<=k)->gq n cur told l=some o->∀p∈o,p.length<=k:=by
 induction l with
 |nil=>
  intro n cur told o k hk ht h;rw[gq] at h;split at h
  ·cases h;intro p hp;rw[aqp,aql] at hp;rcases hp with hp|rfl
   ·exact ht p hp
   simpa using hk
  cases h
 |cons t r ih=>
  intro n cur told o k hk ht h;rw[ay] at hk;rw[gq] at h;split at h
  ·exact ih _ _ _ _ k (by simp;omega) ht h
  split at h
  ·refine ih _ _ _ _ k (by simp;omega) (fun p hp=> ?_) h;rw[aqp,aql] at hp;rcases hp with hp|rfl
   ·exact ht p hp
   omega
  cases h
theorem abP (n:Int)(l:List Int):(lQ n l).length<=l.length+1:=by
 induction l with
 |nil=>simp[lQ]
 |cons x r ih=>
  rw[lQ];split
  ·simp
  split
  ·simp
  rw[ay,ay];omega
theorem KZ (l:List Int):(setOf l).length<=l.length:=by
 unfold setOf;induction l with
 |nil=>simp
 |cons x r ih=>rw[List.foldr_cons,ay];have:=abP x (r.foldr lQ []);omega
theorem ER {x:List (List Int)}{n:Nat}(hn:x.length<=n)(h:∀c∈x,c.length<=1000):yl (x.map setOf)<=1+1001*n:=by
 unfold yl;rw[aq5];have:(x.map (wRow ∘ setOf)).sum<=1001*x.length:=by
  clear hn;induction x with
  |nil=>simp
  |cons a r ih=>rw[aqv,aq3,ay];have h1:=h a (by simp);have h2:=KZ a;have h3:=ih (fun c hc=>h c (by simp[hc]));simp only[Function.comp,wRow];omega
 have:=Nat.mul_le_mul_left 1001 hn;omega
theorem KT:∀(l:List Int),(cu l).length<=l.length
 |a::b::c::r=>by have:=KT r;simp only[cu,ay];omega
 |[]=>by simp[cu]
 |[_]=>by simp[cu]
 |[_,_]=>by simp[cu]
theorem lh {α:Type}(l:List α)(c:α->Nat)(x:α):((l++[x]).map c).sum=(l.map c).sum+c x:=by simp
theorem OT {α:Type}(l:List α)(c:α->Nat)(h:α->α)(k:Nat)(hh:∀x,c (h x)<=c x+k):((l.dropLast++(l.getLast?.map h).toList).map c).sum<=(l.map c).sum+k:=by
 cases hl:l.getLast? with
 |none=>rw[List.getLast?_eq_none_iff] at hl;subst hl;simp
 |some x=>obtain⟨ys,rfl⟩:=List.getLast?_eq_some_iff.1 hl;simp only[List.dropLast_concat,Option.map_some,Option.toList_some];rw[lh,lh];have:=hh x;omega
theorem yK (s:PS)(h:anP->anP)(k:Nat)(hh:∀x,wG (h x)<=wG x+k):wF (nY s h).f<=wF s.f+k:=by have:=OT s.f.anL wG h k hh;unfold wF nY;simp only;omega
theorem Pv (s:PS)(h:Lookup->Lookup)(k:Nat)(hh:∀x,wL (h x)<=wL x+k):wF (jG s h).f<=wF s.f+k:=by have:=OT s.f.anM wL h k hh;unfold wF jG;simp only;omega
theorem ou {e:Int}{s s':PS}(h:fin e s= .ok s'):s'=s:=by
 unfold fin at h;split at h
 ·cases h;rfl
 cases h
theorem aaJ {s s':PS}{l:List B}(hw:∀w∈l,w.length<=1000000)(h:mi s l= .ok s'):wF s'.f<=wF s.f+dE l/\s'.cls=s.cls:=by
 unfold mi at h;split at h
 ·split at h
  ·cases h
  split at h
  ·cases h
  cases h;exact⟨aqA _ _,rfl⟩
 cases h
theorem Z9 {s s':PS}{l:List B}(hw:∀w∈l,w.length<=1000000)(h:sQ s l= .ok s'):wF s'.f<=wF s.f+dE l/\s'.cls=s.cls:=by
 unfold sQ at h;split at h
 ·rename_i n a b c;obtain rfl:=ou h;have:=hw n (by simp);exact⟨by simp only[wF,lh,wA,dE];omega,rfl⟩
 cases h
theorem Xg {s s':PS}{l:List B}(hw:∀w∈l,w.length<=1000000)(h:lX s l= .ok s'):wF s'.f<=wF s.f+dE l/\s'.cls=s.cls:=by
 unfold lX at h;split at h
 ·cases h
 obtain rfl:=ou h;have:=KT (l.map aI);rw[aqs] at this;exact⟨by simp only[wF,lh,Lu,dE];omega,rfl⟩
theorem ac9 {s s':PS}{l:List B}(hw:∀w∈l,w.length<=1000000)(h:Cc s l= .ok s'):wF s'.f<=wF s.f+dE l/\s'.cls=s.cls:=by unfold Cc at h;obtain rfl:=ou h;exact⟨by simp only[wF,az,aqs,dE];omega,rfl⟩
theorem aaG {s s':PS}{l:List B}(hw:∀w∈l,w.length<=1000000)(h:rD s l= .ok s'):wF s'.f<=wF s.f+dE l/\s'.cls=s.cls:=by
 unfold rD at h;split at h
 ·cases h
 obtain rfl:=ou h;exact⟨by simp only[wF,lh,wC,aqs,dE];omega,rfl⟩
theorem Yq {gl:Gl}{s s':PS}{l:List B}(hw:∀w∈l,w.length<=1000000)(h:gI gl s l= .ok s'):wF s'.f<=wF s.f+dE l/\s'.cls=s.cls:=by
 unfold gI at h;split at h
 ·rename_i n a r;split at h
  ·split at h
   ·cases h
   split at h
   ·cases h
   cases h;have:=hw n (by simp);exact⟨by simp only[wF,lh,wG,dE,ln];omega,rfl⟩
  cases h
 cases h
theorem Sz {s s':PS}{l:List B}(hw:∀w∈l,w.length<=1000000)(h:gK s l= .ok s'):wF s'.f<=wF s.f+dE l/\s'.cls=s.cls:=by
 unfold gK at h;split at h
 ·cases h
 split at h
 ·cases h
 obtain rfl:=ou h;exact⟨nt (yK s _ (3*l.length+1) (fun x=>by simp only[wG,az,aqs,ay,ln];omega)) (by unfold dE;omega),rfl⟩
theorem abo {gl:Gl}{s s':PS}{l:List B}(hw:∀w∈l,w.length<=1000000)(h:oL gl s l= .ok s'):wF s'.f<=wF s.f+dE l/\s'.cls=s.cls:=by
 unfold oL at h;split at h
 ·cases h
 split at h
 ·obtain rfl:=ou h;exact⟨nt (yK s _ 3 (fun x=>by simp only[wG,az,ay,ln];omega)) (by unfold dE;omega),rfl⟩
 cases h
theorem Xc {s s':PS}{l:List B}(hw:∀w∈l,w.length<=1000000)(h:iT s l= .ok s'):wF s'.f<=wF s.f+dE l/\s'.cls=s.cls:=by
 unfold iT at h;split at h
 ·cases h
 split at h
 ·split at h
  ·cases h
  obtain rfl:=ou h;exact⟨nt (yK s _ 4 (fun x=>by simp only[wG,az,ay,ln];omega)) (by unfold dE;omega),rfl⟩
 cases h
theorem Yi {s s':PS}{l:List B}(hw:∀w∈l,w.length<=1000000)(h:lL s l= .ok s'):wF s'.f<=wF s.f+dE l/\s'.cls=s.cls:=by
 unfold lL at h;split at h
 ·cases h
 split at h
 ·obtain rfl:=ou h;exact⟨nt (yK s _ 4 (fun x=>by simp only[wG,az,ay,ln];omega)) (by unfold dE;omega),rfl⟩
 cases h
theorem abE {s s':PS}{l:List B}(hw:∀w∈l,w.length<=1000000)(h:oI s l= .ok s'):wF s'.f<=wF s.f+dE l/\s'.cls=s.cls:=by
 unfold oI at h;split at h
 ·cases h
 split at h
 ·cases h
 obtain rfl:=ou h;exact⟨nt (yK s _ (2*l.length) (fun x=>by simp only[wG,az,aqs];omega)) (by unfold dE;omega),rfl⟩
theorem aci {gl:Gl}{s s':PS}{l:List B}(hw:∀w∈l,w.length<=1000000)(h:rq gl s l= .ok s'):wF s'.f<=wF s.f+dE l/\s'.cls=s.cls:=by
 unfold rq at h;split at h
 ·obtain rfl:=ou h;exact⟨by simp only[wF,az,ay,ln,dE];omega,rfl⟩
 cases h
theorem SQ {s s':PS}{l:List B}(hw:∀w∈l,w.length<=1000000)(h:lG s l= .ok s'):wF s'.f<=wF s.f+dE l/\s'.cls=s.cls:=by
 unfold lG at h;split at h
 ·rename_i n r;obtain rfl:=ou h;have:=hw n (by simp);exact⟨by simp only[wF,lh,KD,wRow,aqs,ay,dE];omega,rfl⟩
 cases h
theorem Vp {s s':PS}{l:List B}(hw:∀w∈l,w.length<=1000000)(h:gB s l= .ok s'):wF s'.f<=wF s.f+dE l/\s'.cls=s.cls:=by
 unfold gB at h;split at h
 ·split at h
  ·split at h
   ·cases h
   cases h;exact⟨by simp only[wF,lh,wL,aq9,List.sum_nil,dE];omega,rfl⟩
  cases h
 cases h
theorem ZE {gl:Gl}{s s':PS}{l:List B}(hc:IU s)(h:je gl s l= .ok s'):s'.f=s.f/\IU s':=by
 unfold je at h;split at h
 ·cases h
 split at h
 ·split at h
  ·cases h
  split at h
  ·cases h
  rename_i g hg;split at h
  ·cases h
  cases h;refine⟨rfl,fun c hx=> ?_⟩;simp only[aqp,aql] at hx;rcases hx with hx|rfl
  ·exact hc c hx
  exact Kw (by simp) hg
 cases h
theorem TF {a b o:List Int}(h:eu a b= .ok o):o.length<=a.length:=by
 unfold eu at h;split at h
 ·cases h
 split at h
 ·cases h
 cases h;rw[aqs];exact KZ a
theorem ad3 {c:Prop}{hd:Decidable c}{α:Type}{e:Int}{x:Except Int α}{y:α}(h:(if c then .error e else x)= .ok y):x= .ok y:=by
 split at h
 ·cases h
 exact h
theorem aaD {gl:Gl}{s s':PS}{l:List B}(h:eF gl s l= .ok s'):wF s'.f<=wF s.f+dE l/\s'.cls=s.cls:=by
 unfold eF at h;split at h
 ·cases h
 rename_i lk hlk;split at h
 ·rename_i p0 p1 p2 p3 hp;have hpl:=SS l 0 [] [] _ l.length (by simp) (by simp) hp;have l0:=hpl p0 (by simp);have l1:=hpl p1 (by simp);have l2:=hpl p2 (by simp);have l3:=hpl p3 (by simp);split at h
  ·rename_i w0 w1 w2 e0 e1 e2;have m0:=yC p0 _ _ _ _ e0;have m1:=yC p1 _ _ _ _ e1;have m2:=yC p2 _ _ _ _ e2;simp only[ln,aq2] at m0 m1 m2;split at h
   ·cases h
   split at h
   ·cases h
   split at h
   ·cases h
   rename_i b hb;split at h
   ·cases h
   rename_i i hi;split at h
   ·cases h
   rename_i a ha;obtain⟨b1,b2⟩:=AA hb;obtain⟨i1,i2⟩:=AA hi;obtain⟨a1,a2⟩:=AA ha;have q0:=ER (x:=b) (n:=l.length) (by omega) b2;have q1:=ER (x:=i) (n:=l.length) (by omega) i2;have q2:=ER (x:=a) (n:=l.length) (by omega) a2;have ho:∀c:Prop,[Decidable c]->(if c then p3.map (fM gl) else []).length<=l.length:=fun c _=>by split<;>simp;omega
   have hk:∀c:Prop,[Decidable c]->(if c then p3.map jW else []).length<=l.length:=fun c _=>by split<;>simp;omega
   have hh:(i.headD []).length<=1000:=by
    cases i with
    |nil=>simp
    |cons x r=>exact i2 x (by simp)
   simp only at h;have h:=ad3 h;by_cases hkk:lk.kind=1\/lk.kind=5
   ·rw[if_pos hkk] at h;split at h
    ·cases h
    rename_i o hs;cases h;have hol:=TF hs;have hk4:=hk (lk.kind=4);exact⟨nt (Pv s _ (3003*l.length+4+1001+(1+2*l.length)) (fun x=>by simp only[wL,lh,wR,wRow];omega)) (by unfold dE;omega),rfl⟩
   rw[if_neg hkk] at h;cases h;have iZ:=ho (lk.kind=1\/lk.kind=2\/lk.kind=3\/lk.kind=5);have hk4:=hk (lk.kind=4);exact⟨nt (Pv s _ (3003*l.length+4+1+l.length+(1+2*l.length)) (fun x=>by simp only[wL,lh,wR,wRow];omega)) (by unfold dE;omega),rfl⟩
  cases h
 cases h
theorem ZP (gl:Gl)(s:PS)(w:B)(r:List B):stmt gl s (w::r)=if w=oH then mi s r else if w=sO then sQ s r else if w=kG then lX s r else if w=pz then Cc s r
  else if w=rY then rD s r else if w=uN then je gl s r else if w=eQ then gI gl s r else if w=iW then gK s r
  else if w=pX then oL gl s r else if w=kC then iT s r else if w=nC then lL s r else if w=sS then oI s r
  else if w=rF then rq gl s r else if w=lU then gB s r else if w=mF then eF gl s r else if w=jo then lG s r
  else .error 22:=rfl
theorem adP {gl:Gl}{s s':PS}{l:List B}(hc:IU s)(hw:∀w∈l,w.length<=1000000)(h:stmt gl s l= .ok s'):wF s'.f<=wF s.f+dE l/\IU s':=by
 cases l with
 |nil=>cases h
 |cons w r=>
  have hr:∀w∈r,w.length<=1000000:=fun x hx=>hw x (by simp[hx])
  have key:∀ {s':PS},wF s'.f<=wF s.f+dE r/\s'.cls=s.cls->wF s'.f<=wF s.f+dE (w::r)/\IU s':=fun {s'} ⟨a,b⟩=>⟨nt a (by unfold dE;rw[ay];omega),fun c hx=>hc c (b ▸ hx)⟩
  rw[ZP] at h;by_cases c0:w=oH
  ·rw[if_pos c0] at h;exact key (aaJ hr h)
  rw[if_neg c0] at h;by_cases c1:w=sO
  ·rw[if_pos c1] at h;exact key (Z9 hr h)
  rw[if_neg c1] at h;by_cases c2:w=kG
  ·rw[if_pos c2] at h;exact key (Xg hr h)
  rw[if_neg c2] at h;by_cases c3:w=pz
  ·rw[if_pos c3] at h;exact key (ac9 hr h)
  rw[if_neg c3] at h;by_cases c4:w=rY
  ·rw[if_pos c4] at h;exact key (aaG hr h)
  rw[if_neg c4] at h;by_cases c5:w=uN
  ·rw[if_pos c5] at h;obtain⟨a,b⟩:=ZE hc h;exact⟨by rw[a];omega,b⟩
  rw[if_neg c5] at h;by_cases c6:w=eQ
  ·rw[if_pos c6] at h;exact key (Yq hr h)
  rw[if_neg c6] at h;by_cases c7:w=iW
  ·rw[if_pos c7] at h;exact key (Sz hr h)
  rw[if_neg c7] at h;by_cases c8:w=pX
  ·rw[if_pos c8] at h;exact key (abo hr h)
  rw[if_neg c8] at h;by_cases c9:w=kC
  ·rw[if_pos c9] at h;exact key (Xc hr h)
  rw[if_neg c9] at h;by_cases c10:w=nC
  ·rw[if_pos c10] at h;exact key (Yi hr h)
  rw[if_neg c10] at h;by_cases c11:w=sS
  ·rw[if_pos c11] at h;exact key (abE hr h)
  rw[if_neg c11] at h;by_cases c12:w=rF
  ·rw[if_pos c12] at h;exact key (aci hr h)
  rw[if_neg c12] at h;by_cases c13:w=lU
  ·rw[if_pos c13] at h;exact key (Vp hr h)
  rw[if_neg c13] at h;by_cases c14:w=mF
  ·rw[if_pos c14] at h;exact key (aaD h)
  rw[if_neg c14] at h;by_cases c15:w=jo
  ·rw[if_pos c15] at h;exact key (SQ hr h)
  rw[if_neg c15] at h;cases h
theorem aa4 {gl:Gl}(L:List (Int×List B)):∀ {s s':PS},IU s->(∀x∈L,∀w∈x.2,w.length<=1000000)->stmts gl s L= .ok s'->wF s'.f<=wF s.f+(L.map (fun x=>dE x.2)).sum:=by
 induction L with
 |nil=>intro s s' _ _ h;cases h;simp
 |cons x r ih=>
  intro s s' hc hw h;obtain⟨n,l⟩:=x;rw[stmts] at h;split at h
  ·cases h
  rename_i t ht;have hwl:∀w∈l,w.length<=1000000:=hw (n,l) (by simp);obtain⟨a,b⟩:=adP hc hwl ht;have:=ih b (fun x hx=>hw x (by simp[hx])) h;rw[aqv,aq3];show wF s'.f<=wF s.f+(dE l+(r.map (fun x=>dE x.2)).sum)
  omega
theorem aam {src:B}{f:Fnt}(hs:src.length<=1000000)(h:dw src= .ok f):wF f<=4000000000009:=by
 unfold dw at h;cases hst:stmts (bf 0 ((linesT src).map (·.2))) ps0 (linesT src) with
 |error e=>rw[hst] at h;cases h
 |ok s=>
  rw[hst] at h;simp only[Except.map,ara] at h;subst h;have hb:=Dj 1000000 src hs;have h1:=aa4 (linesT src) (s:=ps0) (fun c hc=>by simp[ps0] at hc) (fun x hx w hw=>by
   unfold linesT at hx;rw[aqQ] at hx;obtain⟨r,hr,rfl⟩:=hx;simp only[aqQ] at hw;obtain⟨y,hy,rfl⟩:=hw;exact(hb r hr).2 y hy) hst
  have h2:∀L:List (List Wd),(∀r∈L,r≠[])->((L.map (fun l=>((l.head?.map (·.1)).getD 0,l.map (·.2.2)))).map (fun x:Int×List B=>dE x.2)).sum<=4000000*tot L:=by
   intro L;induction L with
   |nil=>intro _;simp[tot]
   |cons r L ih=>intro hne;have:=ih (fun x hx=>hne x (by simp[hx]));have h0:0<r.length:=List.length_pos_iff.2 (hne r (by simp));unfold tot at this ⊢;simp only[aqv,aq3,dE,aqs] at this ⊢;omega
  have h3:=h2 (fJ src) (EO _);have h4:=Lc src;have h5:wF ps0.f=9:=rfl;unfold linesT at h1;omega
theorem RU {w:World}{S:Bs}{cs:List Value}{src:B}{f:Fnt}(hs:src.length<=1000000)(h:dw src= .ok f)(hf:an4 w S cs f):(jO f).length<=100000000000000:=by have h1:=aam hs h;have h2:=abS hf (by omega);omega
end Go.Proofs.YtkijckccfookeaaGreatDoor
