/- Lemmas. -/
import Derived.Test.YtkijckccfookeaaGreatDoorV33
set_option linter.unusedVariables false
set_option linter.unusedSimpArgs false
namespace Go.Proofs.YtkijckccfookeaaGreatDoor
open Go.RowKit
def wG (g:ahR):Nat:=g.name.length+10+3*g.points.length+g.ends.length+3*g.parts.length+4*g.anchors.length+4*g.deltas.length+2*g.hint.length
def wRow (l:List Int):Nat:=1+l.length
def xJ (l:List (List Int)):Nat:=1+(l.map wRow).sum
def wR (r:aii):Nat:=xJ r.back+xJ r.in'+xJ r.ahead+wRow r.out+(1+2*r.calls.length)+1
def wL (l:Lookup):Nat:=3+(l.rules.map wR).sum
def Jy (x:aip):Nat:=x.name.length+2+wRow x.ahP
def wA (a:aiM):Nat:=a.name.length+5
def Le (r:Region):Nat:=1+3*r.ah4.length
def wC (p:List Ins):Nat:=1+2*p.length
def wF (f:Fnt):Nat:=9+(f.ahO.map wG).sum+2*f.chars.length+(f.ahP.map wL).sum+(f.features.map Jy).sum+(f.ahQ.map wA).sum+(f.regions.map Le).sum+(f.funcs.map wC).sum+f.cvt.length
theorem sV {α:Type}(l:List α)(c:α->Nat)(h:∀x∈l,1<=c x):l.length<=(l.map c).sum:=by
 induction l with
 |nil=>simp
 |cons a r ih=>rw[akv,ak4,aF];have:=h a (by simp);have:=ih (fun x hx=>h x (by simp[hx]));omega
theorem qx {α:Type}(l:List α)(c:α->Nat){x:α}(h:x∈l):c x<=(l.map c).sum:=by
 induction l with
 |nil=>simp at h
 |cons a r ih=>
  rw[akv,ak4];rw[akx] at h;rcases h with rfl|h
  ·omega
  have:=ih h;omega
theorem Sl.all {α:Type}{R:Rel α}{size:Nat}{w:World}{S:Bs}{A:Option Addr}{xs:List α}(h:Sl R size w S A xs):∀x∈xs,∃cs,R w S cs x:=fun x hx=>by
 obtain⟨k,hk,rfl⟩:=List.getElem_of_mem hx;obtain⟨b,o,y,cs,e,hb,hy,hr,-,hc⟩:=h.get hk;have hy':xs[k]? =some y:=hy;rw[ako hk,akM] at hy';exact⟨cs,hy' ▸ hr⟩
def FP (s:PS):Prop:=∀c∈s.cls,c.2.length<=1000
def dB (l:List B):Nat:=2000000*(l.length+1)
theorem Ig {gl:Gl}{cls:List (B×List Int)}{l:List B}:∀ {acc c:List Int},acc.length<=1000->kz gl cls acc l= .ok c->c.length<=1000:=by
 induction l with
 |nil=>intro acc c ha h;simp only[kz,ala] at h;subst h;exact ha
 |cons t r ih=>
  intro acc c ha h;rw[kz] at h;split at h
  ·cases h
  split at h
  ·cases h
  exact ih (by omega) h
theorem yw {gl:Gl}{cls:List (B×List Int)}{L:List (List B)}:∀ {x:List (List Int)},iV gl cls L= .ok x->x.length=L.length/\∀c∈x,c.length<=1000:=by
 induction L with
 |nil=>intro x h;simp only[iV,ala] at h;subst h;simp
 |cons t r ih=>
  intro x h;rw[iV] at h;split at h
  ·cases h
  rename_i y hy;split at h
  ·cases h
  rename_i ys hys;simp only[ala] at h;subst h;obtain⟨h1,h2⟩:=ih hys;refine⟨by simp[h1],fun c hc=> ?_⟩;rw[akx] at hc;rcases hc with rfl|hc
  ·exact Ig (by simp) hy
  exact h2 c hc
theorem vV (l:List B):∀(op:Bool) (row:List B) (told o:List (List B)),dQ op row told l=some o->o.length<=told.length+l.length:=by
 induction l with
 |nil=>
  intro op row told o h;rw[dQ] at h;split at h
  ·cases h
  cases h;simp
 |cons t r ih=>
  intro op row told o h;rw[dQ] at h;rw[aF];split at h
  ·split at h
   ·cases h
   have:=ih _ _ _ _ h;omega
  split at h
  ·split at h
   ·have:=ih _ _ _ _ h;simp at this;omega
   cases h
  split at h
  ·have:=ih _ _ _ _ h;omega
  have:=ih _ _ _ _ h;simp at this;omega
theorem NH (l:List B):∀(n:Nat) (cur:List B) (told o:List (List B)) (k:Nat),cur.length+l.length<=k->(∀p∈told,p.length<=k)->fQ n cur told l=some o->∀p∈o,p.length<=k:=by
 induction l with
 |nil=>
  intro n cur told o k hk ht h;rw[fQ] at h;split at h
  ·cases h;intro p hp;rw[akq,akm] at hp;rcases hp with hp|rfl
   ·exact ht p hp
   simpa using hk
  cases h
 |cons t r ih=>
  intro n cur told o k hk ht h;rw[aF] at hk;rw[fQ] at h;split at h
  ·exact ih _ _ _ _ k (by simp;omega) ht h
  split at h
  ·refine ih _ _ _ _ k (by simp;omega) (fun p hp=> ?_) h;rw[akq,akm] at hp;rcases hp with hp|rfl
   ·exact ht p hp
   omega
  cases h
theorem Wp (n:Int)(l:List Int):(kW n l).length<=l.length+1:=by
 induction l with
 |nil=>simp[kW]
 |cons x r ih=>
  rw[kW];split
  ·simp
  split
  ·simp
  rw[aF,aF];omega
theorem Ii (l:List Int):(setOf l).length<=l.length:=by
 unfold setOf;induction l with
 |nil=>simp
 |cons x r ih=>rw[List.foldr_cons,aF];have:=Wp x (r.foldr kW []);omega
theorem DL {x:List (List Int)}{n:Nat}(hn:x.length<=n)(h:∀c∈x,c.length<=1000):xJ (x.map setOf)<=1+1001*n:=by
 unfold xJ;rw[ak6];have:(x.map (wRow ∘ setOf)).sum<=1001*x.length:=by
  clear hn;induction x with
  |nil=>simp
  |cons a r ih=>rw[akv,ak4,aF];have h1:=h a (by simp);have h2:=Ii a;have h3:=ih (fun c hc=>h c (by simp[hc]));simp only[Function.comp,wRow];omega
 have:=Nat.mul_le_mul_left 1001 hn;omega
theorem IX:∀(l:List Int),(bT l).length<=l.length
 |a::b::c::r=>by have:=IX r;simp only[bT,aF];omega
 |[]=>by simp[bT]
 |[_]=>by simp[bT]
 |[_,_]=>by simp[bT]
theorem kG {α:Type}(l:List α)(c:α->Nat)(x:α):((l++[x]).map c).sum=(l.map c).sum+c x:=by simp
theorem KE {α:Type}(l:List α)(c:α->Nat)(h:α->α)(k:Nat)(hh:∀x,c (h x)<=c x+k):((l.dropLast++(l.getLast?.map h).toList).map c).sum<=(l.map c).sum+k:=by
 cases hl:l.getLast? with
 |none=>rw[List.getLast?_eq_none_iff] at hl;subst hl;simp
 |some x=>obtain⟨ys,rfl⟩:=List.getLast?_eq_some_iff.1 hl;simp only[List.dropLast_concat,Option.map_some,Option.toList_some];rw[kG,kG];have:=hh x;omega
theorem wM (s:PS)(h:ahR->ahR)(k:Nat)(hh:∀x,wG (h x)<=wG x+k):wF (nP s h).f<=wF s.f+k:=by have:=KE s.f.ahO wG h k hh;unfold wF nP;simp only;omega
theorem JQ (s:PS)(h:Lookup->Lookup)(k:Nat)(hh:∀x,wL (h x)<=wL x+k):wF (jC s h).f<=wF s.f+k:=by have:=KE s.f.ahP wL h k hh;unfold wF jC;simp only;omega
theorem nK {e:Int}{s s':PS}(h:fin e s= .ok s'):s'=s:=by
 unfold fin at h;split at h
 ·cases h;rfl
 cases h
theorem VI {s s':PS}{l:List B}(hw:∀w∈l,w.length<=1000000)(h:lM s l= .ok s'):wF s'.f<=wF s.f+dB l/\s'.cls=s.cls:=by
 unfold lM at h;split at h
 ·split at h
  ·cases h
  split at h
  ·cases h
  cases h;exact⟨akA _ _,rfl⟩
 cases h
theorem VY {s s':PS}{l:List B}(hw:∀w∈l,w.length<=1000000)(h:qZ s l= .ok s'):wF s'.f<=wF s.f+dB l/\s'.cls=s.cls:=by
 unfold qZ at h;split at h
 ·rename_i n a b c;obtain rfl:=nK h;have:=hw n (by simp);exact⟨by simp only[wF,kG,wA,dB];omega,rfl⟩
 cases h
theorem Ry {s s':PS}{l:List B}(hw:∀w∈l,w.length<=1000000)(h:kU s l= .ok s'):wF s'.f<=wF s.f+dB l/\s'.cls=s.cls:=by
 unfold kU at h;split at h
 ·cases h
 obtain rfl:=nK h;have:=IX (l.map aA);rw[aks] at this;exact⟨by simp only[wF,kG,Le,dB];omega,rfl⟩
theorem Zt {s s':PS}{l:List B}(hw:∀w∈l,w.length<=1000000)(h:zX s l= .ok s'):wF s'.f<=wF s.f+dB l/\s'.cls=s.cls:=by unfold zX at h;obtain rfl:=nK h;exact⟨by simp only[wF,la,aks,dB];omega,rfl⟩
theorem Wn {s s':PS}{l:List B}(hw:∀w∈l,w.length<=1000000)(h:qW s l= .ok s'):wF s'.f<=wF s.f+dB l/\s'.cls=s.cls:=by
 unfold qW at h;split at h
 ·cases h
 obtain rfl:=nK h;exact⟨by simp only[wF,kG,wC,aks,dB];omega,rfl⟩
theorem Uy {gl:Gl}{s s':PS}{l:List B}(hw:∀w∈l,w.length<=1000000)(h:gq gl s l= .ok s'):wF s'.f<=wF s.f+dB l/\s'.cls=s.cls:=by
 unfold gq at h;split at h
 ·rename_i n a r;split at h
  ·split at h
   ·cases h
   split at h
   ·cases h
   cases h;have:=hw n (by simp);exact⟨by simp only[wF,kG,wG,dB,ln];omega,rfl⟩
  cases h
 cases h
theorem NL {s s':PS}{l:List B}(hw:∀w∈l,w.length<=1000000)(h:gK s l= .ok s'):wF s'.f<=wF s.f+dB l/\s'.cls=s.cls:=by
 unfold gK at h;split at h
 ·cases h
 split at h
 ·cases h
 obtain rfl:=nK h;exact⟨nt (wM s _ (3*l.length+1) (fun x=>by simp only[wG,la,aks,aF,ln];omega)) (by unfold dB;omega),rfl⟩
theorem XC {gl:Gl}{s s':PS}{l:List B}(hw:∀w∈l,w.length<=1000000)(h:ou gl s l= .ok s'):wF s'.f<=wF s.f+dB l/\s'.cls=s.cls:=by
 unfold ou at h;split at h
 ·cases h
 split at h
 ·obtain rfl:=nK h;exact⟨nt (wM s _ 3 (fun x=>by simp only[wG,la,aF,ln];omega)) (by unfold dB;omega),rfl⟩
 cases h
theorem Qk {s s':PS}{l:List B}(hw:∀w∈l,w.length<=1000000)(h:iJ s l= .ok s'):wF s'.f<=wF s.f+dB l/\s'.cls=s.cls:=by
 unfold iJ at h;split at h
 ·cases h
 split at h
 ·split at h
  ·cases h
  obtain rfl:=nK h;exact⟨nt (wM s _ 4 (fun x=>by simp only[wG,la,aF,ln];omega)) (by unfold dB;omega),rfl⟩
 cases h
theorem Tq {s s':PS}{l:List B}(hw:∀w∈l,w.length<=1000000)(h:lC s l= .ok s'):wF s'.f<=wF s.f+dB l/\s'.cls=s.cls:=by
 unfold lC at h;split at h
 ·cases h
 split at h
 ·obtain rfl:=nK h;exact⟨nt (wM s _ 4 (fun x=>by simp only[wG,la,aF,ln];omega)) (by unfold dB;omega),rfl⟩
 cases h
theorem VS {s s':PS}{l:List B}(hw:∀w∈l,w.length<=1000000)(h:oz s l= .ok s'):wF s'.f<=wF s.f+dB l/\s'.cls=s.cls:=by
 unfold oz at h;split at h
 ·cases h
 split at h
 ·cases h
 obtain rfl:=nK h;exact⟨nt (wM s _ (2*l.length) (fun x=>by simp only[wG,la,aks];omega)) (by unfold dB;omega),rfl⟩
theorem VK {gl:Gl}{s s':PS}{l:List B}(hw:∀w∈l,w.length<=1000000)(h:qO gl s l= .ok s'):wF s'.f<=wF s.f+dB l/\s'.cls=s.cls:=by
 unfold qO at h;split at h
 ·obtain rfl:=nK h;exact⟨by simp only[wF,la,aF,ln,dB];omega,rfl⟩
 cases h
theorem NF {s s':PS}{l:List B}(hw:∀w∈l,w.length<=1000000)(h:kK s l= .ok s'):wF s'.f<=wF s.f+dB l/\s'.cls=s.cls:=by
 unfold kK at h;split at h
 ·rename_i n r;obtain rfl:=nK h;have:=hw n (by simp);exact⟨by simp only[wF,kG,Jy,wRow,aks,aF,dB];omega,rfl⟩
 cases h
theorem PL {s s':PS}{l:List B}(hw:∀w∈l,w.length<=1000000)(h:fV s l= .ok s'):wF s'.f<=wF s.f+dB l/\s'.cls=s.cls:=by
 unfold fV at h;split at h
 ·split at h
  ·split at h
   ·cases h
   cases h;exact⟨by simp only[wF,kG,wL,ak9,List.sum_nil,dB];omega,rfl⟩
  cases h
 cases h
theorem UZ {gl:Gl}{s s':PS}{l:List B}(hc:FP s)(h:iZ gl s l= .ok s'):s'.f=s.f/\FP s':=by
 unfold iZ at h;split at h
 ·cases h
 split at h
 ·split at h
  ·cases h
  split at h
  ·cases h
  rename_i g hg;split at h
  ·cases h
  cases h;refine⟨rfl,fun c hx=> ?_⟩;simp only[akq,akm] at hx;rcases hx with hx|rfl
  ·exact hc c hx
  exact Ig (by simp) hg
 cases h
theorem Ob {a b o:List Int}(h:dZ a b= .ok o):o.length<=a.length:=by
 unfold dZ at h;split at h
 ·cases h
 split at h
 ·cases h
 cases h;rw[aks];exact Ii a
theorem Zm {c:Prop}{hd:Decidable c}{α:Type}{e:Int}{x:Except Int α}{y:α}(h:(if c then .error e else x)= .ok y):x= .ok y:=by
 split at h
 ·cases h
 exact h
theorem Xv {gl:Gl}{s s':PS}{l:List B}(h:ed gl s l= .ok s'):wF s'.f<=wF s.f+dB l/\s'.cls=s.cls:=by
 unfold ed at h;split at h
 ·cases h
 rename_i lk hlk;split at h
 ·rename_i p0 p1 p2 p3 hp;have hpl:=NH l 0 [] [] _ l.length (by simp) (by simp) hp;have l0:=hpl p0 (by simp);have l1:=hpl p1 (by simp);have l2:=hpl p2 (by simp);have l3:=hpl p3 (by simp);split at h
  ·rename_i w0 w1 w2 e0 e1 e2;have m0:=vV p0 _ _ _ _ e0;have m1:=vV p1 _ _ _ _ e1;have m2:=vV p2 _ _ _ _ e2;simp only[ln,ak3] at m0 m1 m2;split at h
   ·cases h
   split at h
   ·cases h
   split at h
   ·cases h
   rename_i b hb;split at h
   ·cases h
   rename_i i hi;split at h
   ·cases h
   rename_i a ha;obtain⟨b1,b2⟩:=yw hb;obtain⟨i1,i2⟩:=yw hi;obtain⟨a1,a2⟩:=yw ha;have q0:=DL (x:=b) (n:=l.length) (by omega) b2;have q1:=DL (x:=i) (n:=l.length) (by omega) i2;have q2:=DL (x:=a) (n:=l.length) (by omega) a2;have ho:∀c:Prop,[Decidable c]->(if c then p3.map (fF gl) else []).length<=l.length:=fun c _=>by split<;>simp;omega
   have hk:∀c:Prop,[Decidable c]->(if c then p3.map jI else []).length<=l.length:=fun c _=>by split<;>simp;omega
   have hh:(i.headD []).length<=1000:=by
    cases i with
    |nil=>simp
    |cons x r=>exact i2 x (by simp)
   simp only at h;have h:=Zm h;by_cases hkk:lk.kind=1\/lk.kind=5
   ·rw[if_pos hkk] at h;split at h
    ·cases h
    rename_i o hs;cases h;have hol:=Ob hs;have hk4:=hk (lk.kind=4);exact⟨nt (JQ s _ (3003*l.length+4+1001+(1+2*l.length)) (fun x=>by simp only[wL,kG,wR,wRow];omega)) (by unfold dB;omega),rfl⟩
   rw[if_neg hkk] at h;cases h;have fD:=ho (lk.kind=1\/lk.kind=2\/lk.kind=3\/lk.kind=5);have hk4:=hk (lk.kind=4);exact⟨nt (JQ s _ (3003*l.length+4+1+l.length+(1+2*l.length)) (fun x=>by simp only[wL,kG,wR,wRow];omega)) (by unfold dB;omega),rfl⟩
  cases h
 cases h
theorem TE (gl:Gl)(s:PS)(w:B)(r:List B):stmt gl s (w::r)=if w=jK then lM s r else if w=oW then qZ s r else if w=iM then kU s r else if w=kF then zX s r
  else if w=mX then qW s r else if w=sH then iZ gl s r else if w=dM then gq gl s r else if w=eX then gK s r
  else if w=mY then ou gl s r else if w=jd then iJ s r else if w=kC then lC s r else if w=kP then oz s r
  else if w=pq then qO gl s r else if w=fH then fV s r else if w=dF then ed gl s r else if w=iw then kK s r
  else .error 22:=rfl
theorem Za {gl:Gl}{s s':PS}{l:List B}(hc:FP s)(hw:∀w∈l,w.length<=1000000)(h:stmt gl s l= .ok s'):wF s'.f<=wF s.f+dB l/\FP s':=by
 cases l with
 |nil=>cases h
 |cons w r=>
  have hr:∀w∈r,w.length<=1000000:=fun x hx=>hw x (by simp[hx])
  have key:∀ {s':PS},wF s'.f<=wF s.f+dB r/\s'.cls=s.cls->wF s'.f<=wF s.f+dB (w::r)/\FP s':=fun {s'} ⟨a,b⟩=>⟨nt a (by unfold dB;rw[aF];omega),fun c hx=>hc c (b ▸ hx)⟩
  rw[TE] at h;by_cases c0:w=jK
  ·rw[if_pos c0] at h;exact key (VI hr h)
  rw[if_neg c0] at h;by_cases c1:w=oW
  ·rw[if_pos c1] at h;exact key (VY hr h)
  rw[if_neg c1] at h;by_cases c2:w=iM
  ·rw[if_pos c2] at h;exact key (Ry hr h)
  rw[if_neg c2] at h;by_cases c3:w=kF
  ·rw[if_pos c3] at h;exact key (Zt hr h)
  rw[if_neg c3] at h;by_cases c4:w=mX
  ·rw[if_pos c4] at h;exact key (Wn hr h)
  rw[if_neg c4] at h;by_cases c5:w=sH
  ·rw[if_pos c5] at h;obtain⟨a,b⟩:=UZ hc h;exact⟨by rw[a];omega,b⟩
  rw[if_neg c5] at h;by_cases c6:w=dM
  ·rw[if_pos c6] at h;exact key (Uy hr h)
  rw[if_neg c6] at h;by_cases c7:w=eX
  ·rw[if_pos c7] at h;exact key (NL hr h)
  rw[if_neg c7] at h;by_cases c8:w=mY
  ·rw[if_pos c8] at h;exact key (XC hr h)
  rw[if_neg c8] at h;by_cases c9:w=jd
  ·rw[if_pos c9] at h;exact key (Qk hr h)
  rw[if_neg c9] at h;by_cases c10:w=kC
  ·rw[if_pos c10] at h;exact key (Tq hr h)
  rw[if_neg c10] at h;by_cases c11:w=kP
  ·rw[if_pos c11] at h;exact key (VS hr h)
  rw[if_neg c11] at h;by_cases c12:w=pq
  ·rw[if_pos c12] at h;exact key (VK hr h)
  rw[if_neg c12] at h;by_cases c13:w=fH
  ·rw[if_pos c13] at h;exact key (PL hr h)
  rw[if_neg c13] at h;by_cases c14:w=dF
  ·rw[if_pos c14] at h;exact key (Xv h)
  rw[if_neg c14] at h;by_cases c15:w=iw
  ·rw[if_pos c15] at h;exact key (NF hr h)
  rw[if_neg c15] at h;cases h
theorem XI {gl:Gl}(L:List (Int×List B)):∀ {s s':PS},FP s->(∀x∈L,∀w∈x.2,w.length<=1000000)->stmts gl s L= .ok s'->wF s'.f<=wF s.f+(L.map (fun x=>dB x.2)).sum:=by
 induction L with
 |nil=>intro s s' _ _ h;cases h;simp
 |cons x r ih=>
  intro s s' hc hw h;obtain⟨n,l⟩:=x;rw[stmts] at h;split at h
  ·cases h
  rename_i t ht;have hwl:∀w∈l,w.length<=1000000:=hw (n,l) (by simp);obtain⟨a,b⟩:=Za hc hwl ht;have:=ih b (fun x hx=>hw x (by simp[hx])) h;rw[akv,ak4];show wF s'.f<=wF s.f+(dB l+(r.map (fun x=>dB x.2)).sum)
  omega
theorem VL {src:B}{f:Fnt}(hs:src.length<=1000000)(h:jv src= .ok f):wF f<=4000000000009:=by
 unfold jv at h;cases hst:stmts (aP 0 ((linesT src).map (·.2))) ps0 (linesT src) with
 |error e=>rw[hst] at h;cases h
 |ok s=>
  rw[hst] at h;simp only[Except.map,ala] at h;subst h;have hb:=Ba 1000000 src hs;have h1:=XI (linesT src) (s:=ps0) (fun c hc=>by simp[ps0] at hc) (fun x hx w hw=>by
   unfold linesT at hx;rw[akQ] at hx;obtain⟨r,hr,rfl⟩:=hx;simp only[akQ] at hw;obtain⟨y,hy,rfl⟩:=hw;exact(hb r hr).2 y hy) hst
  have h2:∀L:List (List Wd),(∀r∈L,r≠[])->((L.map (fun l=>((l.head?.map (·.1)).getD 0,l.map (·.2.2)))).map (fun x:Int×List B=>dB x.2)).sum<=4000000*tot L:=by
   intro L;induction L with
   |nil=>intro _;simp[tot]
   |cons r L ih=>intro hne;have:=ih (fun x hx=>hne x (by simp[hx]));have h0:0<r.length:=ale.2 (hne r (by simp));unfold tot at this ⊢;simp only[akv,ak4,dB,aks] at this ⊢;omega
  have h3:=h2 (fJ src) (Em _);have h4:=He src;have h5:wF ps0.f=9:=rfl;unfold linesT at h1;omega
theorem out_ok (w:World)(C rb p gm:Nat)(gl:Gl)(kind err:Int)(v0 v1 v2:Value)(A:Option Addr)(n c:Nat)(ws:List P3)(hC:Bk w C lK #[v0,v1,v2,.slice none 0 0,.slice none 0 0,.int .i64 0])(hR:Rdr w rb p err)(hG:aiX w p gm gl)
  (hp:p<w.heap.size) (p1:p≠rb) (p2:p≠C) (p3:gm≠rb) (p4:gm≠C) (hw:RdT w dW A n 3 (dA ws)) (hl:∀x∈ws,x.2.2.length<=800000000) (hn:n<=1000000000) (hok:dY kind (af ws)=true) (b i a:List (List Int)):
  Calls Tryz.prog 138 #[.pointer (some ⟨rb,0,none⟩),.int .i64 kind,.slice A n c,.pointer (some ⟨C,0,none⟩)] w fun e w'=>e= .returned (.tuple #[])/\aiQ w C rb p v0 v1 v2 (jU gl kind err (af ws)) (cZ gl kind b i a (af ws)).out (cZ gl kind b i a (af ws)).calls (cZ gl kind b i a (af ws)).x w':=by
 unfold cZ jU;simp only;by_cases h1:kind=1\/kind=2\/kind=3\/kind=5
 ·rw[if_pos h1,if_pos h1,if_neg (by omega),if_neg (by omega)];exact TC w C rb p gm gl kind err v0 v1 v2 A n c ws h1 hC hR hG hp p1 p2 p3 p4 hw hn
 rw[if_neg h1,if_neg h1];by_cases h4:kind=4
 ·rw[if_pos h4,if_pos h4,if_neg (by omega)];subst h4;exact UQ w C rb p err v0 v1 v2 A n c ws hC hR hw hl hn
 rw[if_neg h4,if_neg h4];by_cases h6:kind=6
 ·rw[if_pos h6,if_pos h6]
  unfold dY at hok;rw[if_neg h4,if_pos h6] at hok;obtain⟨t,ht⟩:∃t,af ws=[t]:=by
   match af ws,hok with
   |[t],_=>exact⟨t,rfl⟩
  subst h6;rw[ht];exact Vw w C rb p err v0 v1 v2 A n c ws hC hR hw hl ht
 rw[if_neg h6,if_neg h6];exact Xr w C rb p kind err v0 v1 v2 A n c hC hR (by omega)
theorem FQ {l:List Int}(h:wRow l<=10000000000000):Big l.length:=by unfold wRow at h;unfold Big;omega
theorem Dy {l:List (List Int)}(h:xJ l<=10000000000000):Big l.length/\∀s∈l,Big s.length:=by have h0:=sV l wRow (fun x _=>by unfold wRow;omega);unfold xJ at h;exact⟨by unfold Big;omega,fun s hs=>FQ (by have:=qx l wRow hs;omega)⟩
theorem VU {r:aii}(h:wR r<=10000000000000):ajq r/\∀s∈r.back++r.in'++r.ahead,Big s.length:=by
 unfold wR at h;obtain⟨a1,a2⟩:=Dy (l:=r.back) (by omega);obtain⟨b1,b2⟩:=Dy (l:=r.in') (by omega);obtain⟨c1,c2⟩:=Dy (l:=r.ahead) (by omega);refine⟨⟨a1,b1,c1,FQ (by omega),by unfold Big;omega⟩,fun s hs=> ?_⟩;rw[akq,akq] at hs;rcases hs with(hs|hs)|hs
 ·exact a2 s hs
 ·exact b2 s hs
 exact c2 s hs
theorem abx {f:Fnt}(h:wF f<=10000000000000):ajv f:=by
 unfold wF at h;have g1:=sV f.ahO wG (fun x _=>by unfold wG;omega);have g3:=sV f.ahP wL (fun x _=>by unfold wL;omega);have g4:=sV f.features Jy (fun x _=>by unfold Jy;omega);have g5:=sV f.ahQ wA (fun x _=>by unfold wA;omega);have g6:=sV f.regions Le (fun x _=>by unfold Le;omega);have g7:=sV f.funcs wC (fun x _=>by unfold wC;omega);refine⟨by unfold Big;omega,by unfold Big;omega,by unfold Big;omega,by unfold Big;omega,by unfold Big;omega,by unfold Big;omega,by unfold Big;omega,by unfold Big;omega,fun g hg=> ?_,fun l hl=> ?_,fun x hx=> ?_,fun a ha=> ?_,fun r hr=> ?_,fun p hp=> ?_⟩
 ·have:=qx f.ahO wG hg;unfold wG at this;unfold wG at h;exact⟨by unfold Big;omega,by unfold Big;omega,by unfold Big;omega,by unfold Big;omega,by unfold Big;omega,by unfold Big;omega,by unfold Big;omega⟩
 ·have h1:=qx f.ahP wL hl;have h2:wL l<=10000000000000:=by omega
  unfold wL at h2;have h3:=sV l.rules wR (fun x _=>by unfold wR;omega);exact⟨by unfold Big;omega,fun r hr=>VU (by have:=qx l.rules wR hr;omega)⟩
 ·have h1:=qx f.features Jy hx;have h2:Jy x<=10000000000000:=by omega
  unfold Jy at h2;exact⟨by unfold Big;omega,FQ (by omega)⟩
 ·have h1:=qx f.ahQ wA ha;have h2:wA a<=10000000000000:=by omega
  unfold wA at h2;unfold Big;omega
 ·have h1:=qx f.regions Le hr;have h2:Le r<=10000000000000:=by omega
  unfold Le at h2;unfold Big;omega
 have h1:=qx f.funcs wC hp;have h2:wC p<=10000000000000:=by omega
 unfold wC at h2;unfold Big;omega
theorem rY {w w':World}{a b:Nat}(ht:Two w w' a b){ta tb e:TypeId}{ca cb:Array Value}(ha:Bk w a ta ca)(hb:Bk w b tb cb)(n1:e≠ta)(n2:e≠tb){base size n:Nat}{v:Value}{xs:List Value}(h:w.ownsRow base e size v n xs):w'.ownsRow base e size v n xs:=by
 refine⟨h.1,?_⟩;rcases h.2 with h0|⟨g,cap,cur,rfl,hg,hh,rest⟩
 ·exact .inl h0
 refine .inr ⟨g,cap,cur,rfl,hg,(ht.block g (akp.1 hh).1 (fun e'=> ?_) (fun e'=> ?_)).trans hh,rest⟩
 ·subst e';exact n1 (dR hh ha).1
 subst e';exact n2 (dR hh hb).1
theorem sN {w w':World}{a b:Nat}(ht:Two w w' a b){ta tb:TypeId}{ca cb:Array Value}(ha:Bk w a ta ca)(hb:Bk w b tb cb)(n1:3≠ta)(n2:3≠tb){base:Nat}{hs:List Value}{xs:List (List Int)}(h:Fl ahV 1 w (IB base w) hs xs):Fl ahV 1 w' (IB base w') hs xs:=by
 have hsame:Same (IB base w) w w':=fun g ⟨_,cur,hk⟩=>ht.block g hk.lt (fun e'=>by subst e';exact n1 (dR hk ha).1) (fun e'=>by subst e';exact n2 (dR hk hb).1)
 exact(h.keep ahV.ok hsame).mono ahV.ok fun g hg=>⟨hg.1,by obtain⟨cur,hk⟩:=hg.2;exact⟨cur,hk.keep (hsame g hg)⟩⟩
section
variable {w W:World} {Bd p gm cm:Nat} {gl:Gl} {s:PS} {rv:Rows} {K:Nat}
theorem F5 (h:PSt w Bd p gm cm gl s rv K){A:Option Addr}{n c b2 base:Nat}{hs:List Value}{xs:List (List Int)}(ho:W.ownsRow b2 22 1 (.slice A n c) n hs)(hf:Fl ahV 1 W (IB base W) hs xs)(hb:w.heap.size<=b2)(hb2:w.heap.size<=base):Sl ahV 1 W (Fz W rv) A xs:=Sl.aiC ho (hf.mono ahV.ok (h.ib hb2)) (h.fresh ho hb (by decide)) (by decide)
theorem YO (W:World)(S:Bs)(l:List Call)(h:∀x∈l,I64 x.at'/\I64 x.lookup):Fl air 2 W S (qE l) l:=by
 induction l with
 |nil=>exact Fl.nil
 |cons x r ih=>obtain⟨h1,h2⟩:=h x (by simp);exact(Fl.one (R:=air) ⟨rfl,h1,h2⟩ rfl).append (ih (fun y hy=>h y (by simp[hy])))
theorem JZ (h:PSt w Bd p gm cm gl s rv K){A0 A1 A2 Ao Ac:Option Addr}{c0 c1 c2 co cc b0 b1 b2 bo bc e0 e1 e2:Nat}{h0 h1 h2:List Value}{s0 s1 s2:List (List Int)}{out:List Int}{calls:List Call}{x:Int}
  (o0:W.ownsRow b0 22 1 (.slice A0 s0.length c0) s0.length h0) (f0:Fl ahV 1 W (IB e0 W) h0 s0) (o1:W.ownsRow b1 22 1 (.slice A1 s1.length c1) s1.length h1) (f1:Fl ahV 1 W (IB e1 W) h1 s1) (o2:W.ownsRow b2 22 1 (.slice A2 s2.length c2) s2.length h2) (f2:Fl ahV 1 W (IB e2 W) h2 s2)
  (oo:W.ownsRow bo 3 1 (.slice Ao out.length co) out.length (aW out)) (oc:W.ownsRow bc 95 2 (.slice Ac calls.length cc) calls.length (qE calls)) (io:∀y∈out,I64 y) (ic:∀y∈calls,I64 y.at'/\I64 y.lookup) (ix:I64 x)
  (l0:w.heap.size<=b0) (l1:w.heap.size<=b1) (l2:w.heap.size<=b2) (lo:w.heap.size<=bo) (lc:w.heap.size<=bc) (m0:w.heap.size<=e0) (m1:w.heap.size<=e1) (m2:w.heap.size<=e2):
  aig W (Fz W rv) [.slice A0 s0.length c0,.slice A1 s1.length c1,.slice A2 s2.length c2,.slice Ao out.length co,.slice Ac calls.length cc,.int .i64 x] ⟨s0,s1,s2,out,calls,x⟩:=
 ⟨A0,c0,A1,c1,A2,c2,Ao,co,Ac,cc,rfl,ix,F5 h o0 f0 l0 m0,F5 h o1 f1 l1 m1,F5 h o2 f2 l2 m2,Sl.aiC oo (zh _ _ _ io) (h.fresh oo lo (by decide)) (by decide),Sl.aiC oc (YO _ _ _ ic) (h.fresh oc lc (by decide)) (by decide)⟩
end
end Go.Proofs.YtkijckccfookeaaGreatDoor
