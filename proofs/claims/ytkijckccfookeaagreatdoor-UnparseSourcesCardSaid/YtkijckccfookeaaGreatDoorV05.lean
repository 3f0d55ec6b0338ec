/- Lemmas. -/
import Derived.Test.YtkijckccfookeaaGreatDoorV04
import Derived.Lib.SlicesCompact
import Derived.WalkSmall
import Derived.Deep.LoopGhost
import Derived.Test.YtkijckccfookeaaGreatDoorRows
import Derived.Lib.LaidTab
set_option linter.unusedVariables false
set_option linter.unusedSimpArgs false
set_option maxRecDepth 100000
set_option maxHeartbeats 32000000
namespace Go.Proofs.YtkijckccfookeaaGreatDoor
section
open Go.RowKit
def yz (c:UInt8):Bool:=c !=32 && c !=9 && c !=10 && c !=35
def bM (w:B):Bool:= !w.isEmpty && w.all yz
theorem wQ {c:UInt8}(h:yz c=true):blank c=false/\c≠35/\c≠10:=by simp only[yz,akK,bne_iff_ne,ne_eq] at h;exact⟨by simp[blank,h.1.1.1,h.1.1.2],h.2,h.1.2⟩
theorem Pg {w:B}(h:bM w=true):w≠[]:=by intro e;subst e;simp[bM] at h
theorem xx {w:B}(h:bM w=true):∀c∈w,yz c=true:=by simp only[bM,akK,akW] at h;exact h.2
def sO (ws:List B):B:=match ws with|[]=>[10]|w::r=>au w r
def uM:Nat->List B->List (Nat×B)
 |_,[]=>[]
 |k,w::r=>(k,w)::uM (k+w.length+1) r
theorem XR (k:Nat)(ws:List B):(uM k ws).map (·.2)=ws:=by
 induction ws generalizing k with
 |nil=>rfl
 |cons w r ih=>simp[uM,ih]
theorem Iq (σ :St)(w:B)(hw:bM w=true)(hc: σ.cur=[]):w.foldl step σ =⟨σ.at'+w.length,σ.at',w,σ.told⟩:=by
 cases w with
 |nil=>simp[bM] at hw
 |cons c r=>have h1:=wQ (xx hw c (by simp));rw[akN,TS _ r (by unfold step;simp[h1.1]) (fun d hd=>(wQ (xx hw d (by simp[hd]))).1)];unfold step;simp[h1.1,hc];omega
theorem Uo (ws:List B)(σ :St)(hc: σ.cur≠[])(h:∀w∈ws,bM w=true):((fC ws).foldl step σ).all= σ.told++[(σ.fr,σ.cur)]++uM (σ.at'+1) ws:=by
 induction ws generalizing σ with
 |nil=>simp[fC,uM,St.all,St.pend,hc]
 |cons w r ih=>
  have e:fC (w::r)=32::(w++fC r):=by simp[fC]
  have hs:step σ 32=⟨σ.at'+1,0,[],σ.all⟩:=by unfold step;rw[if_pos (by decide)]
  rw[e,akN,ak8,hs,Iq _ w (h w (by simp)) rfl,ih _ (Pg (h w (by simp))) (fun x hx=>h x (by simp[hx]))];simp[St.all,St.pend,hc,uM]
  all_goals omega
theorem Xf (l:B)(h:∀c∈l,c≠35):code l=l:=by
 unfold code;induction l with
 |nil=>rfl
 |cons d r ih=>rw[List.takeWhile_cons_of_pos (by simpa using h d (by simp)),ih (fun c hc=>h c (by simp[hc]))]
theorem Om (ws:List B)(h:∀w∈ws,bM w=true):∀c∈fC ws,c≠35/\c≠10:=by
 intro c hc;simp only[fC,akZ,akx] at hc;obtain⟨w,hw,hc|hc⟩:=hc
 ·subst hc;decide
 exact(wQ (xx (h w hw) c hc)).2
theorem VV (w:B)(ws:List B)(h:∀x∈w::ws,bM x=true):one (w++fC ws)=uM 0 (w::ws):=by
 have hn:∀c∈w++fC ws,c≠35:=by
  intro c hc;rw[akq] at hc;rcases hc with hc|hc
  ·exact(wQ (xx (h w (by simp)) c hc)).2.1
  exact(Om ws (fun x hx=>h x (by simp[hx])) c hc).1
 rw[one,Xf _ hn,run,ak8,Iq st0 w (h w (by simp)) rfl,Uo ws _ (Pg (h w (by simp))) (fun x hx=>h x (by simp[hx]))];simp[uM,st0]
def xR:Nat->List (List B)->List (List Wd)
 |_,[]=>[]
 |n,l::ls=>num n (uM 0 l)::xR (n+1) ls
def oh:Nat->List (List B)->List (Int×List B)
 |_,[]=>[]
 |n,l::ls=>((n:Int),l)::oh (n+1) ls
def Sz (L:List (List B)):Prop:=∀l∈L,l≠[]/\∀w∈l,bM w=true
theorem PZ (L:List (List B))(n:Nat)(h:Sz L):bF n (gW (L.flatMap sO))=xR n L:=by
 induction L generalizing n with
 |nil=>simp[gW,bF,xR,one,code,run,st0,St.all,St.pend]
 |cons l ls ih=>
  obtain⟨h1,h2⟩:=h l (by simp);cases l with
  |nil=>exact absurd rfl h1
  |cons w r=>
   have hno:∀c∈w++fC r,c≠10:=by
    intro c hc;rw[akq] at hc;rcases hc with hc|hc
    ·exact(wQ (xx (h2 w (by simp)) c hc)).2.2
    exact(Om r (fun x hx=>h2 x (by simp[hx])) c hc).2
   have e:((w::r)::ls).flatMap sO=(w++fC r)++10::ls.flatMap sO:=by simp[sO,au]
   rw[e,OW _ _ hno,bF,VV w r h2,ih (n+1) (fun x hx=>h x (by simp[hx]))];simp[uM,xR]
theorem Vo (L:List (List B))(h:Sz L):fJ (L.flatMap sO)=xR 1 L:=PZ L 1 h
theorem Zv (L:List (List B))(n:Nat)(h:Sz L):(xR n L).map (fun l=>((l.head?.map (·.1)).getD 0,l.map (·.2.2)))=oh n L:=by
 induction L generalizing n with
 |nil=>rfl
 |cons l ls ih=>
  obtain⟨h1,h2⟩:=h l (by simp);cases l with
  |nil=>exact absurd rfl h1
  |cons w r=>
   simp only[xR,akv,oh,ih (n+1) (fun x hx=>h x (by simp[hx]))];congr 1
   simp only[num,uM,akv,List.head?_cons,Option.map_some,Option.getD_some,ak6,alb,true_and];congr 1
   have:=XR (0+w.length+1) r;simpa [Function.comp_def] using this
theorem P7 (L:List (List B))(h:Sz L):linesT (L.flatMap sO)=oh 1 L:=by rw[linesT,Vo L h,Zv L 1 h]
theorem Tv (n:Nat)(L:List (List B)):(oh n L).map (·.2)=L:=by
 induction L generalizing n with
 |nil=>rfl
 |cons l ls ih=>simp[oh,ih]
theorem Uu (n:Nat)(a b:List (List B)):oh n (a++b)=oh n a++oh (n+a.length) b:=by
 induction a generalizing n with
 |nil=>simp[oh]
 |cons l ls ih=>simp only[akC,oh,ih,aF];rw[show n+1+ls.length=n+(ls.length+1) by omega]
theorem AO (gl:Gl)(s:PS)(a b:List (Int×List B)):stmts gl s (a++b)=(match stmts gl s a with| .ok s'=>stmts gl s' b| .error e=> .error e):=by
 induction a generalizing s with
 |nil=>rfl
 |cons x a ih=>
  obtain⟨n,l⟩:=x;simp only[akC,stmts];cases stmt gl s l with
  |error e=>rfl
  |ok s'=>exact ih s'
def notP:Obj->Prop
 | .cells _ t _=>t≠5/\t≠130
 |_=>True
structure KP (w w':World):Prop where
 same:∀(b:Nat) (o:Obj),w.heap[b]? =some o->notP o->w'.heap[b]? =some o
 size:w.heap.size<=w'.heap.size
theorem KP.refl (w:World):KP w w:=⟨fun _ _ h _=>h,nr _⟩
theorem KP.trans {a b c:World}(h:KP a b)(k:KP b c):KP a c:=⟨fun x o hx ho=>k.same x o (h.same x o hx ho) ho,nt h.size k.size⟩
theorem KP.below {w w':World}(h:Below w.heap.size w w'):KP w w':=⟨fun b o hb _=>(h.block b (akp.1 hb).1).trans hb,h.size⟩
theorem KP.alloc (w:World)(o:Obj):KP w (w.alloc o):=KP.below ((akl _ _).alloc (nr _) _)
theorem KP.drewN (w:World)(n:Nat):KP w (w.drewN n):=⟨fun _ _ h _=>h,nr _⟩
theorem KP.bk {w w':World}(h:KP w w'){g:Nat}{t:TypeId}{cs:Array Value}(hb:Bk w g t cs)(h1:t≠5)(h2:t≠130):Bk w' g t cs:=h.same g _ hb ⟨h1,h2⟩
def FT (w:World):Bs:=fun b=>∃o,w.heap[b]? =some o/\notP o
theorem KP.ft {w w':World}(h:KP w w'):Same (FT w) w w':=fun b ⟨o,h1,h2⟩=>(h.same b o h1 h2).trans h1.symm
theorem KP.sub {w w':World}(h:KP w w'):∀b,FT w b->FT w' b:=fun b ⟨o,h1,h2⟩=>⟨o,h.same b o h1 h2,h2⟩
theorem KP.sl {α:Type}{R:Rel α}(ok:R.Ok){size:Nat}{w w':World}{A:Option Addr}{xs:List α}(h:KP w w')(k:Sl R size w (FT w) A xs):Sl R size w' (FT w') A xs:=(k.keep ok h.ft).mono ok h.sub
theorem KP.rel {α:Type}{R:Rel α}(ok:R.Ok){w w':World}{cs:List Value}{x:α}(h:KP w w')(k:R w (FT w) cs x):R w' (FT w') cs x:=ok.mono (ok.keep k h.ft) h.sub
theorem EL {w:World}{b:Nat}{t:TypeId}{cs:Array Value}(h:Bk w b t cs)(h1:t≠5)(h2:t≠130):FT w b:=⟨_,h,h1,h2⟩
end
section
open Go.Sort
theorem KD (n x:Int)(l:List Int):x∈kW n l ↔ x=n\/x∈l:=by
 induction l with
 |nil=>simp[kW]
 |cons y r ih=>
  rw[kW];split
  ·simp
  split
  ·rename_i h;subst h;simp
  rw[akx,ih,akx];constructor
  ·rintro(h|h|h)
   ·exact .inr (.inl h)
   ·exact .inl h
   exact .inr (.inr h)
  rintro(h|h|h)
  ·exact .inr (.inl h)
  ·exact .inl h
  exact .inr (.inr h)
theorem Y8 (n:Int)(l:List Int)(h:l.Pairwise (· < ·)):(kW n l).Pairwise (· < ·):=by
 induction l with
 |nil=>simp[kW]
 |cons y r ih=>
  rw[List.pairwise_cons] at h;rw[kW];split
  ·rename_i h1;rw[List.pairwise_cons];refine⟨fun a ha=> ?_,List.pairwise_cons.2 h⟩;rcases akx.1 ha with rfl|ha
   ·exact h1
   have:=h.1 a ha;omega
  split
  ·exact List.pairwise_cons.2 h
  rw[List.pairwise_cons];refine⟨fun a ha=> ?_,ih h.2⟩;rcases(KD n a r).1 ha with rfl|ha
  ·omega
  exact h.1 a ha
theorem AC (x:Int)(l:List Int):x∈setOf l ↔ x∈l:=by
 induction l with
 |nil=>simp[setOf]
 |cons y r ih=>show x∈kW y (setOf r) ↔ _;rw[KD,ih,akx]
theorem Wi (l:List Int):(setOf l).Pairwise (· < ·):=by
 induction l with
 |nil=>exact List.Pairwise.nil
 |cons y r ih=>exact Y8 y _ ih
theorem Zo (a b:List Int)(ha:a.Pairwise (· < ·))(hb:b.Pairwise (· < ·))(h:∀x,x∈a ↔ x∈b):a=b:=by
 induction a generalizing b with
 |nil=>
  cases b with
  |nil=>rfl
  |cons y s=>exact absurd ((h y).2 (by simp)) (by simp)
 |cons x r ih=>
  cases b with
  |nil=>exact absurd ((h x).1 (by simp)) (by simp)
  |cons y s=>
   rw[List.pairwise_cons] at ha hb;have hxy:x=y:=by
    rcases akx.1 ((h x).1 (by simp)) with e|hx
    ·exact e
    rcases akx.1 ((h y).2 (by simp)) with e|hy
    ·exact e.symm
    have h1:=hb.1 x hx;have h2:=ha.1 y hy;omega
   subst hxy;congr 1
   refine ih s ha.2 hb.2 fun z=> ?_
   constructor
   ·intro hz;rcases akx.1 ((h z).1 (by simp[hz])) with e|hs
    ·have:=ha.1 z hz;omega
    exact hs
   intro hz;rcases akx.1 ((h z).2 (by simp[hz])) with e|hs
   ·have:=hb.1 z hz;omega
   exact hs
theorem Zn (zs:List Int)(hs:zs.Pairwise (· <= ·))(m:Nat)(hm:m<=zs.length):(Lib.compactUpTo zs.toArray m).Pairwise (· < ·)/\(∀x,x∈Lib.compactUpTo zs.toArray m ↔ x∈zs.take m)/\(∀x,x∈Lib.compactUpTo zs.toArray m->0<m->x<=zs.toArray[m - 1]!):=by
 induction m with
 |zero=>exact⟨by simp[Lib.compactUpTo],by simp[Lib.compactUpTo],fun x _ h=>by omega⟩
 |succ m ih=>
  obtain⟨h1,h2,h3⟩:=ih (by omega);have hlt:m<zs.length:=by omega
  have hd:zs.toArray[m]! =zs[m]:=by simp[hlt]
  have htk:zs.take (m+1)=zs.take m++[zs[m]]:=(List.take_append_getElem hlt).symm;rw[Lib.compactUpTo_succ,hd];cases hk:Lib.keeps zs.toArray m with
  |true=>
   have hlow:∀x∈Lib.compactUpTo zs.toArray m,x<zs[m]:=by
    intro x hx;by_cases h0:m=0
    ·subst h0;simp[Lib.compactUpTo] at hx
    have hle:=h3 x hx (by omega);have hne:zs.toArray[m]! ≠zs.toArray[m - 1]! :=by unfold Lib.keeps at hk;rw[ali] at hk;exact hk.resolve_left h0
    have hd1:zs.toArray[m - 1]! =zs[m - 1]:=by simp[show m - 1<zs.length by omega]
    rw[hd,hd1] at hne;rw[hd1] at hle;have:=List.pairwise_iff_getElem.1 hs (m - 1) m (by omega) hlt (by omega);omega
   refine⟨?_,fun x=> ?_,fun x hx _=> ?_⟩
   ·simp only[if_true];rw[List.pairwise_append];exact⟨h1,by simp,fun a ha b hb=>by simp only[akm] at hb;subst hb;exact hlow a ha⟩
   ·simp only[if_true];rw[htk,akq,akq,h2]
   rw[Nat.add_sub_cancel,hd];simp only[if_true] at hx;rcases akq.1 hx with h|h
   ·exact Int.le_of_lt (hlow x h)
   simp only[akm] at h;omega
  |false=>
   have h0:0<m:=by
    rcases Nat.eq_zero_or_pos m with h|h
    ·subst h;simp[Lib.keeps] at hk
    exact h
   have heq:zs.toArray[m]! =zs.toArray[m - 1]! :=by
    unfold Lib.keeps at hk;rw[decide_eq_false_iff_not] at hk;by_cases h:zs.toArray[m]! =zs.toArray[m - 1]!
    ·exact h
    exact absurd (.inr h) hk
   have hd1:zs.toArray[m - 1]! =zs[m - 1]:=by simp[show m - 1<zs.length by omega]
   rw[hd,hd1] at heq;simp only[Bool.false_eq_true,if_false,akR];refine⟨h1,fun x=> ?_,fun x hx _=> ?_⟩
   ·rw[htk,akq,h2,akm];constructor
    ·exact .inl
    rintro(h|h)
    ·exact h
    rw[h,heq];exact List.mem_take_iff_getElem.2 ⟨m - 1,by omega,rfl⟩
   rw[Nat.add_sub_cancel,hd];have:=h3 x hx h0;rw[hd1] at this;omega
theorem Jf (l:List Int):Lib.compact (l.mergeSort fun x y=>decide (x<=y))=setOf l:=by
 have hs:(l.mergeSort fun x y=>decide (x<=y)).Pairwise (· <= ·):=by have:=List.pairwise_mergeSort (le:=fun x y:Int=>decide (x<=y)) (fun a b c h1 h2=>by simp only[ali] at*;omega) (fun a b=>by simp only[Bool.or_eq_true,ali];omega) l;exact this.imp (fun h=>by simpa using h)
 obtain⟨h1,h2,-⟩:=Zn _ hs _ (nr _);refine Zo _ _ h1 (Wi l) fun x=> ?_
 show x∈Lib.compactUpTo _ _ ↔ _;rw[h2,akr,AC];exact(List.mergeSort_perm l _).mem_iff
theorem IL (l:List Int):(setOf l).length<=l.length:=by
 have hi:∀n l,(kW n l).length<=l.length+1:=by
  intro n l;induction l with
  |nil=>simp[kW]
  |cons y r ih=>
   rw[kW];split
   ·simp
   split
   ·simp
   simp only[aF];omega
 induction l with
 |nil=>simp[setOf]
 |cons y r ih=>show(kW y (setOf r)).length<=_;have:=hi y (setOf r);simp only[aF];omega
end
section
open Go.RowKit
def Nz {α:Type}(a:Except Int α):Prop:=∀e,a= .error e->e≠0
theorem Nz.err {α:Type}{e:Int}(h:e≠0):Nz (.error e:Except Int α):=fun x hx=>by injection hx with hx;rw[<-hx];exact h
theorem Nz.ok {α:Type}{a:α}:Nz (.ok a:Except Int α):=fun x hx=>by cases hx
theorem nR (e:Int)(s:PS):Nz (fin e s):=by
 unfold fin;split
 ·exact Nz.ok
 rename_i h;exact Nz.err h
theorem abJ (gl:Gl)(cls:List (B×List Int))(t:B):Nz (mr gl cls t):=by unfold mr;split<;>split<;>first|exact Nz.ok|exact Nz.err (by decide)
theorem Yo (gl:Gl)(cls:List (B×List Int))(l:List B)(acc:List Int):Nz (kz gl cls acc l):=by
 induction l generalizing acc with
 |nil=>exact Nz.ok
 |cons t r ih=>
  rw[kz];have h:=abJ gl cls t;cases ho:mr gl cls t with
  |error e=>exact Nz.err (h e ho)
  |ok c=>
   simp only;split
   ·exact Nz.err (by decide)
   exact ih _
theorem GI (gl:Gl)(cls:List (B×List Int))(l:List (List B)):Nz (iV gl cls l):=by
 induction l with
 |nil=>exact Nz.ok
 |cons t r ih=>
  rw[iV];have h:=Yo gl cls t [];cases ho:kz gl cls [] t with
  |error e=>exact Nz.err (h e ho)
  |ok c=>
   simp only;cases hr:iV gl cls r with
   |error e=>exact Nz.err (ih e hr)
   |ok x=>exact Nz.ok
theorem ZF (l nm:List Int):Nz (dZ l nm):=by
 unfold dZ;split
 ·exact Nz.err (by decide)
 split
 ·exact Nz.err (by decide)
 exact Nz.ok
theorem dN {α:Type}{c:Prop}[Decidable c]{x y:Except Int α}(hx:Nz x)(hy:Nz y):Nz (if c then x else y):=by
 split
 ·exact hx
 exact hy
theorem EW {α:Type}{e:Int}{x:Except Int α}(hx:Nz x):Nz (if e≠0 then .error e else x):=by
 by_cases h:e≠0
 ·rw[if_pos h];exact Nz.err h
 rw[if_neg h];exact hx
theorem n22 {α:Type}:Nz (.error 22:Except Int α):=Nz.err (by decide)
theorem n24 {α:Type}:Nz (.error 24:Except Int α):=Nz.err (by decide)
theorem Y0 (gl:Gl)(s:PS)(l:List B):Nz (ed gl s l):=by
 unfold ed;split
 ·exact n22
 split
 ·split
  ·refine dN n22 (dN n22 ?_);split
   ·rename_i h;exact Nz.err (GI _ _ _ _ h)
   split
   ·rename_i h;exact Nz.err (GI _ _ _ _ h)
   split
   ·rename_i h;exact Nz.err (GI _ _ _ _ h)
   dsimp only;refine EW (dN ?_ Nz.ok);split
   ·rename_i h;exact Nz.err (ZF _ _ _ h)
   exact Nz.ok
  exact n22
 exact n22
theorem ZO (s:PS)(l:List B):Nz (lM s l):=by
 unfold lM;split
 ·exact EW (dN n24 Nz.ok)
 exact n22
theorem VE (gl:Gl)(s:PS)(l:List B):Nz (iZ gl s l):=by
 unfold iZ;split
 ·exact n22
 split
 ·refine EW ?_;split
  ·rename_i h;exact Nz.err (Yo _ _ _ _ _ h)
  exact dN n24 Nz.ok
 exact n22
theorem WW (gl:Gl)(s:PS)(l:List B):Nz (gq gl s l):=by
 unfold gq;split
 ·exact dN (EW (dN n24 Nz.ok)) n22
 exact n22
theorem FI (gl:Gl)(s:PS)(l:List B):Nz (stmt gl s l):=by
 cases l with
 |nil=>exact n22
 |cons w r=>
  unfold stmt;refine dN (ZO _ _) (dN ?_ (dN ?_ (dN (nR _ _) (dN ?_ (dN (VE _ _ _) (dN (WW _ _ _) (dN ?_ (dN ?_ (dN ?_ (dN ?_ (dN ?_ (dN ?_ (dN ?_ (dN (Y0 _ _ _) (dN ?_ n22)))))))))))))))
  ·unfold qZ;split<;>first|exact nR _ _|exact n22
  ·exact dN n22 (nR _ _)
  ·exact dN n22 (nR _ _)
  ·exact dN n22 (dN n22 (nR _ _))
  ·refine dN n22 ?_;split<;>first|exact nR _ _|exact n22
  ·refine dN n22 ?_;split<;>first|exact dN n22 (nR _ _)|exact n22
  ·refine dN n22 ?_;split<;>first|exact nR _ _|exact n22
  ·exact dN n22 (dN n22 (nR _ _))
  ·unfold qO;split<;>first|exact nR _ _|exact n22
  ·unfold fV;split<;>first|exact dN (dN n22 Nz.ok) n22|exact n22
  unfold kK;split<;>first|exact nR _ _|exact n22
theorem ZW (l:B)(σ :St):(((l.foldl step σ).told).map (fun x=>x.2.length)).sum+(l.foldl step σ).cur.length<=(σ.told.map (fun x=>x.2.length)).sum+ σ.cur.length+l.length:=by
 induction l generalizing σ with
 |nil=>simp
 |cons c r ih=>
  rw[akN];have h:=ih (step σ c);have h2:((step σ c).told.map (fun x=>x.2.length)).sum+(step σ c).cur.length<=(σ.told.map (fun x=>x.2.length)).sum+ σ.cur.length+1:=by
   unfold step;split
   ·by_cases hc: σ.cur=[]<;>simp[St.all,St.pend,hc]<;>omega
   simp only[la,aF,ln];omega
  simp only[aF];omega
theorem WZ (l:B):∀x∈one l,x.2.length<=l.length:=by
 intro x hx;have h:=ZW (code l) st0;have hc:(code l).length<=l.length:=(List.takeWhile_sublist _).length_le;have hm:x.2.length<=((run (code l)).told.map (fun x=>x.2.length)).sum+(run (code l)).cur.length:=by
  unfold one St.all St.pend at hx;rw[akq] at hx;rcases hx with hx|hx
  ·have:∀(L:List (Nat×B)),x∈L->x.2.length<=(L.map (fun x=>x.2.length)).sum:=by
    intro L hL;induction L with
    |nil=>simp at hL
    |cons a r ih=>
     rw[akx] at hL;simp only[akv,ak4];rcases hL with rfl|hL
     ·omega
     have:=ih hL;omega
   have:=this _ hx;omega
  split at hx
  ·simp at hx
  simp only[akm] at hx;subst hx;simp only;omega
 have h0:(st0.told.map (fun x=>x.2.length)).sum+st0.cur.length=0:=rfl;unfold run at hm;omega
theorem Xl (s:B):∀p∈gW s,p.length<=s.length:=by
 induction s with
 |nil=>intro p hp;simp[gW] at hp;subst hp;simp
 |cons c r ih=>
  intro p hp;rw[gW] at hp;split at hp
  ·rw[akx] at hp;rcases hp with rfl|hp
   ·simp
   have:=ih p hp;simp only[aF];omega
  cases hq:gW r with
  |nil=>exact absurd hq (KH r)
  |cons q qs=>
   rw[hq] at hp ih;simp only[akx] at hp;rcases hp with rfl|hp
   ·have:=ih q (by simp);simp only[aF];omega
   have:=ih p (by simp[hp]);simp only[aF];omega
theorem Ba (K:Nat)(src:B)(hs:src.length<=K):∀r∈fJ src,r.length<=K/\∀x∈r,x.2.2.length<=K:=by
 have key:∀(ps:List B) (n:Nat),(∀p∈ps,p.length<=K)->∀r∈bF n ps,r.length<=K/\∀x∈r,x.2.2.length<=K:=by
  intro ps;induction ps with
  |nil=>intro n _ r hr;simp[bF] at hr
  |cons p ps ih=>
   intro n hp r hr;rw[bF,akq] at hr;rcases hr with hr|hr
   ·split at hr
    ·simp at hr
    simp only[akm] at hr;subst hr;have h1:=hp p (by simp);refine⟨by rw[BI];exact nt (O9 p) h1,fun x hx=> ?_⟩;unfold num at hx;rw[akQ] at hx;obtain⟨y,hy,rfl⟩:=hx;exact nt (WZ p y hy) h1
   exact ih (n+1) (fun q hq=>hp q (by simp[hq])) r hr
 exact key _ _ fun p hp=>nt (Xl src p hp) hs
theorem Nv (src:B)(hs:src.length<=800000000):∀r∈fJ src,r.length<=800000000/\∀x∈r,x.2.2.length<=800000000:=Ba 800000000 src hs
def JW (σ :St):Int:=if σ.cur=[] then -1 else σ.fr
theorem JJ {σ :St}(h: σ.cur=[]):JW σ = -1:=by rw[JW,if_pos h]
theorem FV {σ :St}(h: σ.cur≠[]):JW σ =(σ.fr:Int):=by rw[JW,if_neg h]
theorem Q9 (n:Nat)(a b:List (Nat×B)):num n (a++b)=num n a++num n b:=by simp[num]
theorem Zb (n:Nat){σ :St}(h: σ.cur=[]):num n σ.all=num n σ.told:=by rw[St.all,St.pend,if_pos h,akR]
theorem YR (n:Nat)(s:B)(k:Nat)(h:(run (s.take k)).cur≠[]):num n (run (s.take k)).all=num n (run (s.take k)).told++[((n:Int),((run (s.take k)).fr:Int),(s.take k).drop (run (s.take k)).fr)]:=by rw[St.all,St.pend,if_neg h,Q9,(Oh _ h).2];rfl
theorem acK (s:B)(k:Nat)(hk:k<=s.length)(h:(run (s.take k)).cur≠[]):(run (s.take k)).fr<=k:=by have:=(Oh _ h).1;rw[akH] at this;omega
theorem Um (s:B)(k:Nat)(c:UInt8)(h:s[k]? =some c)(hb:blank c=true):(run (s.take (k+1))).told=(run (s.take k)).all/\JW (run (s.take (k+1)))= -1:=by refine⟨?_,JJ (UD s k c h hb)⟩;rw[take_snoc s k c h,rE,step,if_pos hb]
theorem Zk (s:B)(k d:Nat)(hd:1<=d)(hk:k+d<=s.length)(hn:∀j c,k<=j->j<k+d->s[j]? =some c->blank c=false):
  (run (s.take (k+d))).told=(run (s.take k)).told/\(run (s.take (k+d))).cur≠[]/\(run (s.take (k+d))).fr=if(run (s.take k)).cur=[] then k else(run (s.take k)).fr:=by
 obtain⟨d,rfl⟩:∃e,d=e+1:=⟨d - 1,by omega⟩
 clear hd;induction d with
 |zero=>have hg:s[k]? =some (s[k]'(by omega)):=ako (by omega);have hb:=hn k _ (nr _) (by omega) hg;have ha:=SI (s.take k);rw[akH,Nat.min_eq_left (by omega)] at ha;rw[ak3,take_snoc s k _ hg,rE,step,if_neg (by simp[hb])];simp[ha]
 |succ d ih=>obtain⟨i1,i2,i3⟩:=ih (by omega) (fun j c h1 h2 h3=>hn j c h1 (by omega) h3);have hg:s[k+(d+1)]? =some (s[k+(d+1)]'(by omega)):=ako (by omega);have hb:=hn (k+(d+1)) _ (by omega) (by omega) hg;rw[<-ak7 k (d+1) 1,take_snoc s (k+(d+1)) _ hg,rE,step,if_neg (by simp[hb])];refine⟨i1,by simp,?_⟩;rw[if_neg i2];exact i3
theorem GY (W:World)(h:Nat)(s:B)(n k:Nat)(hb:aiN h s n (JW (run (s.take k))) (num n (run (s.take k)).told) W)(hk:k<=s.length)(hs:s.length<=800000000):
  Calls Tryz.prog 120 #[.int .i64 k,.pointer (some ⟨h+1+1+1,0,none⟩),.pointer (some ⟨h+1+1,0,none⟩),.pointer (some ⟨h+1,0,none⟩),.pointer (some ⟨h,0,none⟩)] W (xm h s n (num n (run (s.take k)).all) W):=by
 by_cases hc:(run (s.take k)).cur=[]
 ·rw[JJ hc] at hb;rw[Zb n hc];exact Zi W h s n k _ hb
 rw[FV hc] at hb;rw[YR n s k hc];refine Xk W h s n _ k _ hb (acK s k hk hc) hk hs ?_;have h1:=zJ (s.take k);rw[akH,St.all,la] at h1;rw[BI];omega
theorem own_iterAt {w:World}{base:Nat}{e:TypeId}{size:Nat}{v:Value}{n:Nat}{xs:List Value}(h:w.ownsRow base e size v n xs){k:Nat}{s:ByteArray}{p:Nat}(hk:w.heap[k]? =some (.stringIter s p))(q:Nat):(w.iterAt k s q).ownsRow base e size v n xs:=by
 refine h.kept (row:=some k) ⟨rfl,rfl,rfl,by rw[Lib.iterAt_size];exact nr _,fun i _ hne=>Lib.iterAt_other w k i s q (fun e=>hne (by rw[e]))⟩ ?_;cases hv:v.ownBlock with
 |none=>exact .inl rfl
 |some g=>
  refine .inr ?_;intro e;injection e with e
  subst e;obtain⟨cur,hb⟩:=oO h g hv;have:w.heap[g]? =_:=hb;rw[hk] at this;cases this
theorem Bk.iterAt {w:World}{g:Nat}{t:TypeId}{cs:Array Value}(h:Bk w g t cs){k:Nat}{s:ByteArray}{p:Nat}(hk:w.heap[k]? =some (.stringIter s p))(q:Nat):Bk (w.iterAt k s q) g t cs:=by refine(Lib.iterAt_other w k g s q ?_).trans h;rintro rfl;have:w.heap[g]? =_:=h;rw[hk] at this;cases this
theorem aiN.iterAt {h:Nat}{s:B}{n:Nat}{f:Int}{ws:List P3}{W:World}(hb:aiN h s n f ws W){k:Nat}{s':ByteArray}{p:Nat}(hk:W.heap[k]? =some (.stringIter s' p))(q:Nat):aiN h s n f ws (W.iterAt k s' q):=by obtain⟨h1,h2,h3,A,c,h4,h5⟩:=hb;exact⟨h1.iterAt hk q,h2.iterAt hk q,h3.iterAt hk q,A,c,h4.iterAt hk q,own_iterAt h5 hk q⟩
def yx (w:World)(s:B)(n k:Nat)(wr:World):Prop:=wr.heap[w.heap.size+1+1+1+1]? =some (.stringIter ⟨s.toArray⟩ k)/\k<=s.length/\(∀j c,j<k->s[j]? =some c->c≠35)/\aiN w.heap.size s n (JW (run (s.take k))) (num n (run (s.take k)).told) wr/\Below w.heap.size w wr
def Be (w:World)(s:B)(n:Nat)(e:Ending)(w':World):Prop:=∃v,e= .returned v/\w'.ownsRow w.heap.size 124 3 v (one s).length (dA (num n (one s)))/\Below w.heap.size w w'
theorem Iz (w W':World)(s:B)(n k m c:Nat)(A:Option Addr)(hcode:code s=s.take k)(hm:(num n (run (s.take k)).all).length=m)(h5:W'.ownsRow (w.heap.size+1+1+1+1) 124 3 (.slice A m c) m (dA (num n (run (s.take k)).all)))(hbl:Below w.heap.size w W'):Be w s n (.returned (.slice A m c)) W':=by refine⟨_,rfl,?_,hbl⟩;rw[BI] at hm;rw[one,hcode,hm];exact ownsRow_base h5 (by omega)
theorem WY (s:B)(j:Nat)(c:UInt8)(h:s[j]? =some c):(ByteArray.mk s.toArray).get! j=c:=by obtain⟨h1,h2⟩:=akn.1 h;simp[ByteArray.get!,h1,h2]
theorem MV (s:B)(k:Nat)(c:UInt8)(hc:s[k]? =some c)(h35:c≠35)(hbk:blank c=false):
  ∃r d:Nat,Utf8.decode ⟨s.toArray⟩ k=(r,d)/\((r:Int)==35)=false/\((r:Int)==32)=false/\((r:Int)==9)=false/\r<=2147483647/\1<=d/\k+d<=s.length/\∀j c,k<=j->j<k+d->s[j]? =some c->blank c=false/\c≠35:=by
 have hlt:k<s.length:=(akn.1 hc).1;have hb:=byte_at s k c hc hlt;have hle:=decode_le ⟨s.toArray⟩ k;have n35:c.toNat≠35:=fun h=>h35 (UInt8.toNat_inj.1 h)
 have nbk:c.toNat≠32/\c.toNat≠9:=by simp only[blank,Bool.or_eq_false_iff,beq_eq_false_iff_ne,ne_eq] at hbk;exact⟨fun h=>hbk.1 (UInt8.toNat_inj.1 h),fun h=>hbk.2 (UInt8.toNat_inj.1 h)⟩
 by_cases ha:c.toNat<128
 ·have hd:=decode_ascii ⟨s.toArray⟩ k hlt (by rw[hb];exact ha);rw[hb] at hd;refine⟨_,_,hd,?_,?_,?_,by omega,by omega,by omega,fun j c' h1 h2 h3=> ?_⟩
  ·simp;omega
  ·simp;omega
  ·simp;omega
  obtain rfl:j=k:=by omega
  rw[hc] at h3;cases h3;exact⟨hbk,h35⟩
 obtain⟨hd1,hd2⟩:=decode_high ⟨s.toArray⟩ k hlt (by rw[hb];omega);obtain⟨hd3,hd4⟩:=NP ⟨s.toArray⟩ k hlt;generalize Utf8.decode ⟨s.toArray⟩ k=D at*
 obtain⟨r,d⟩:=D;dsimp only at hd1 hd2 hd3 hd4 hle;refine⟨r,d,rfl,?_,?_,?_,hle,hd2,hd3,fun j c' h1 h2 h3=> ?_⟩
 ·simp;omega
 ·simp;omega
 ·simp;omega
 have h128:128<=c'.toNat:=by
  by_cases hjk:j=k
  ·subst hjk;rw[hc] at h3;cases h3;omega
  have:=hd4 (j - k) (by omega) (by omega)
  rwa [show k+(j - k)=j by omega,WY s j c' h3] at this
 refine⟨?_,fun h=>by subst h;revert h128;decide⟩;simp only[blank,Bool.or_eq_false_iff,beq_eq_false_iff_ne,ne_eq];exact⟨fun h=>by subst h;revert h128;decide,fun h=>by subst h;revert h128;decide⟩
theorem split_ok (w:World)(s:B)(n:Nat)(hs:s.length<=800000000):Calls Tryz.prog 71 #[.string ⟨s.toArray⟩,.int .i64 n] w (Be w s n):=by
 obtain⟨W0,hW0⟩:∃W0,((((w.alloc (.cells #[.string ⟨s.toArray⟩] 9)).alloc (.cells #[.int .i64 n] 3)).alloc (.cells #[.slice none 0 0] 119)).alloc (.cells #[.int .i64 (-1)] 3)).iter ⟨s.toArray⟩ 0=W0:=⟨_,rfl⟩
 have hinv0:yx w s n 0 W0:=by
  rw[<-hW0];refine⟨?_,by omega,by omega,?_,?_⟩
  ·have:=heap_alloc_new ((((w.alloc (.cells #[.string ⟨s.toArray⟩] 9)).alloc (.cells #[.int .i64 n] 3)).alloc (.cells #[.slice none 0 0] 119)).alloc (.cells #[.int .i64 (-1)] 3)) (.stringIter ⟨s.toArray⟩ 0);simp only[World.size_alloc] at this;exact this
  ·refine⟨?_,?_,?_,none,0,?_,?_⟩
   ·exact((((Bk.new w 9 _).alloc _).alloc _).alloc _).alloc _
   ·have:=(((Bk.new (w.alloc (.cells #[.string ⟨s.toArray⟩] 9)) 3 #[.int .i64 n]).alloc (.cells #[.slice none 0 0] 119)).alloc (.cells #[.int .i64 (-1)] 3)).alloc (.stringIter ⟨s.toArray⟩ 0);simp only[World.size_alloc] at this;exact this
   ·have:=(Bk.new (((w.alloc (.cells #[.string ⟨s.toArray⟩] 9)).alloc (.cells #[.int .i64 n] 3)).alloc (.cells #[.slice none 0 0] 119)) 3 #[.int .i64 (-1)]).alloc (.stringIter ⟨s.toArray⟩ 0);simp only[World.size_alloc] at this;exact this
   ·have:=((Bk.new ((w.alloc (.cells #[.string ⟨s.toArray⟩] 9)).alloc (.cells #[.int .i64 n] 3)) 119 #[.slice none 0 0]).alloc (.cells #[.int .i64 (-1)] 3)).alloc (.stringIter ⟨s.toArray⟩ 0);simp only[World.size_alloc] at this;exact this
   simp only[List.take_zero,run,st0,List.foldl_nil,num,ak9,ln,dA,ak5];exact⟨rfl,.inl ⟨rfl,rfl⟩⟩
  exact(((((akl _ w).alloc (nr _) _).alloc (by simp) _).alloc (by simp;omega) _).alloc (by simp;omega) _).alloc (by simp;omega) _
 have HW:=hd0 hW0;clear hW0;go_enter Tryz.func71,Tryz.ntmps71
 go_wp2;go_step3;go_wp2;go_step3;go_wp2;rw[HW.out];clear HW;go_loopw [8] (fun l wr=>l= .int .i64 s.length/\∃k,yx w s n k wr) (fun _ wr=>s.length - wr.iterPos (w.heap.size+1+1+1+1))
 case atStart=>exact⟨rfl,0,hinv0⟩
 case round=>
  obtain⟨rfl,k,hit,hk,hno,hbx,hbl⟩:=hrel;clear hinv0;have hpos:=iterPos_of hit;by_cases hlt:k<s.length
  ·obtain⟨c,hc⟩:∃c,s[k]? =some c:=⟨_,ako hlt⟩
   have hb:=byte_at s k c hc hlt;by_cases h35:c=35
   ·subst h35;have hcode:=hd0 (IE s k hk hno (fun c' hc'=>by rw[hc] at hc';cases hc';rfl));have hnx:∀ty,(Instr.next (.pointer (some ⟨w.heap.size+1+1+1+1,0,none⟩)) true ty).run Tryz.prog wr=_:=fun ty=>Lib.run_next_ascii_at wr _ ⟨s.toArray⟩ k ty hit hlt (by rw[hb];decide)
    rw[hb] at hnx;have xW:=hbx.iterAt hit (k+1);have zQ:=Lib.below_iterAt hbl (k:=w.heap.size+1+1+1+1) (by omega) ⟨s.toArray⟩ (k+1);clear hno hc hb hpos;generalize wr.iterAt (w.heap.size+1+1+1+1) ⟨s.toArray⟩ (k+1)=W1 at*
    go_wp2_with (go_at_call 120;refine(GY _ _ s n k xW hk hs).mono ?_;rintro e W2 ⟨rfl,hbx2,Ad,QK⟩;obtain⟨g1,g2,g3,A,c1,g4,g5⟩:=hbx2;have x4:W2.cell? ⟨w.heap.size+1+1,0,none⟩=some (.slice A (num n (run (s.take k)).all).length c1):=g4.cell 0)
    try rw[Exit.noGoto_ret]
    go_ret
    exact Iz w W2 s n k _ c1 A hcode.out rfl g5 (zQ.trans Ad)
   by_cases hbk:blank c=true
   ·have hinv:Hid (∀W2,W2.heap[w.heap.size+1+1+1+1]? =some (.stringIter ⟨s.toArray⟩ (k+1))->aiN w.heap.size s n (-1) (num n (run (s.take k)).all) W2->Below w.heap.size w W2->yx w s n (k+1) W2):=by
     intro W2 h1 h2 h3;obtain⟨r1,r2⟩:=Um s k c hc hbk;refine⟨h1,by omega,fun j d hj hd=> ?_,by rw[r1,r2];exact h2,h3⟩;by_cases hjk:j=k
     ·subst hjk;rw[hc] at hd;cases hd;exact h35
     exact hno j d (by omega) hd
    have hbk2:c=32\/c=9:=by simpa [blank] using hbk
    have hnx:∀ty,(Instr.next (.pointer (some ⟨w.heap.size+1+1+1+1,0,none⟩)) true ty).run Tryz.prog wr=_:=fun ty=>Lib.run_next_ascii_at wr _ ⟨s.toArray⟩ k ty hit hlt (by rw[hb];rcases hbk2 with rfl|rfl<;>decide)
    rw[hb] at hnx;have xW:=hbx.iterAt hit (k+1);have zQ:=Lib.below_iterAt hbl (k:=w.heap.size+1+1+1+1) (by omega) ⟨s.toArray⟩ (k+1);have Ea:=hd0 (Lib.iterAt_heap wr _ ⟨s.toArray⟩ k (k+1) hit);have P6:=hd0 hpos;clear hno hc hb hpos hbk h35 hit;generalize wr.iterAt (w.heap.size+1+1+1+1) ⟨s.toArray⟩ (k+1)=W1 at*
    rcases hbk2 with rfl|rfl
    all_goals
     go_wp2_with (go_at_call 120;refine(GY _ _ s n k xW hk hs).mono ?_;rintro e W2 ⟨rfl,hbx2,Ad,QK⟩)
     go_roundw
     case rel=>exact⟨rfl,k+1,hinv.out W2 (QK.same _ _ Ea.out rfl) hbx2 (zQ.trans Ad)⟩
     case measure=>have h1:=iterPos_of (QK.same _ _ Ea.out rfl);rw[h1,P6.out];omega
   have hd1:∃r d:Nat,Utf8.decode ⟨s.toArray⟩ k=(r,d)/\((r:Int)==35)=false/\((r:Int)==32)=false/\((r:Int)==9)=false/\r<=2147483647/\1<=d/\k+d<=s.length/\∀j c,k<=j->j<k+d->s[j]? =some c->blank c=false/\c≠35:=MV s k c hc h35 (by simpa using hbk);obtain⟨r,d,hdec,hr1,hr2,hr3,hr4,hd1,hkd,hseg⟩:=hd1;obtain⟨t1,t2,t3⟩:=Zk s k d hd1 hkd (fun j c h1 h2 h3=>(hseg j c h1 h2 h3).1);have hnx:∀ty,(Instr.next (.pointer (some ⟨w.heap.size+1+1+1+1,0,none⟩)) true ty).run Tryz.prog wr=_:=fun ty=>Lib.run_next_any_at wr _ ⟨s.toArray⟩ k ty hit hlt
   rw[hdec] at hnx;have hinv:Hid (∀W2,W2.heap[w.heap.size+1+1+1+1]? =some (.stringIter ⟨s.toArray⟩ (k+d))->aiN w.heap.size s n (if(run (s.take k)).cur=[] then(k:Int) else((run (s.take k)).fr:Int)) (num n (run (s.take k)).told) W2->Below w.heap.size w W2->yx w s n (k+d) W2):=by
    intro W2 h1 h2 h3;refine⟨h1,by omega,fun j e hj he=> ?_,?_,h3⟩
    ·by_cases hjk:j<k
     ·exact hno j e hjk he
     exact(hseg j e (by omega) hj he).2
    rw[FV t2,t1,t3];by_cases hq:(run (s.take k)).cur=[]
    ·simpa [hq] using h2
    simpa [hq] using h2
   have xW:=hbx.iterAt hit (k+d);have zQ:=Lib.below_iterAt hbl (k:=w.heap.size+1+1+1+1) (by omega) ⟨s.toArray⟩ (k+d);have Ea:=hd0 (Lib.iterAt_heap wr _ ⟨s.toArray⟩ k (k+d) hit);have P6:=hd0 hpos;clear hno hc hb hpos hbk h35 hit hdec hseg t1 t2 t3 hbx hbl;simp only at hnx;generalize wr.iterAt (w.heap.size+1+1+1+1) ⟨s.toArray⟩ (k+d)=W1 at*
   by_cases hq:(run (s.take k)).cur=[]
   ·rw[JJ hq] at xW;rw[if_pos hq] at hinv;obtain⟨g1,g2,g3,A,c1,g4,g5⟩:=xW;have x3:W1.cell? ⟨w.heap.size+1+1+1,0,none⟩=some (.int .i64 (-1)):=g3.cell 0;have y3:=g3.frozen 0;have Hq:=hd0 hq;clear hq;have qN:=hd0 (hinv.out (W1.setCell ⟨w.heap.size+1+1+1,0,none⟩ (.int .i64 k)) ((KeepsOthers.setCell _ _ _).same _ _ Ea.out rfl) ⟨g1.far (by simp;omega) _,g2.far (by simp) _,g3.set 0 _,A,c1,g4.far (by simp) _,ownsRow_setCell_below g5 (by simp) _⟩ (zQ.setCell (by simp;omega) _));have hm1:=hd0 (iterPos_of ((KeepsOthers.setCell W1 ⟨w.heap.size+1+1+1,0,none⟩ (.int .i64 k)).same _ _ Ea.out rfl));clear g1 g2 g3 g4 g5 hinv zQ;go_wp2;go_roundw
    case rel=>exact⟨rfl,k+d,qN.out⟩
    case measure=>rw[hm1.out,P6.out];omega
   rw[FV hq] at xW;rw[if_neg hq] at hinv;have qN:=hd0 (hinv.out W1 Ea.out xW zQ);obtain⟨g1,g2,g3,A,c1,g4,g5⟩:=xW;have x3:W1.cell? ⟨w.heap.size+1+1+1,0,none⟩=some (.int .i64 ((run (s.take k)).fr:Int)):=g3.cell 0;clear hq g1 g2 g3 g4 g5 hinv zQ;have hm1:=hd0 (iterPos_of Ea.out);go_wp2;go_roundw
   case rel=>exact⟨rfl,k+d,qN.out⟩
   case measure=>rw[hm1.out,P6.out];omega
  obtain rfl:k=s.length:=by omega
  have hcode:=hd0 (IE s s.length hk hno (fun c' hc'=>by rw[akL (nr _)] at hc';cases hc'));have hnx:∀ty,(Instr.next (.pointer (some ⟨w.heap.size+1+1+1+1,0,none⟩)) true ty).run Tryz.prog wr=_:=fun ty=>Lib.run_next_end_at wr _ ⟨s.toArray⟩ s.length ty hit hlt
  clear hno hpos hit;go_wp2_with (go_at_call 120;refine(GY _ _ s n s.length hbx hk hs).mono ?_;rintro e W2 ⟨rfl,hbx2,Ad,QK⟩;obtain⟨g1,g2,g3,A,c1,g4,g5⟩:=hbx2;have x4:W2.cell? ⟨w.heap.size+1+1,0,none⟩=some (.slice A (num n (run (s.take s.length)).all).length c1):=g4.cell 0)
  try rw[Exit.noGoto_ret]
  go_ret
  refine Iz w W2 s n s.length _ c1 A hcode.out (by rw[akr]) ?_ (hbl.trans Ad);rw[akr] at g5 ⊢;exact g5
def Gz {H:Type}(ss:List B):DataW H:= .agg (ss.map fun s=> .lit (.string s))
theorem Jd {H:Type}{enc:TypeId×Value->H}{P:Program}{w:World}{base:Nat}{sp:Nat->Bool}{held:Bool}{fuel:Nat}{t e:TypeId}{n:Nat}{cs:List Value}{ss:List B}{p:List MemPlace}
  (ht:P.underlying t=some (.array n e)) (he:P.underlying e=some .string) (hce:P.cellsOf e=1) (hct:P.cellsOf t=n)
  (h:DataW.trod enc P w base sp held fuel t cs=some (Gz ss,p)):cs=strs ss:=by
 cases fuel with
 |zero=>simp[DataW.trod] at h
 |succ fuel=>
  simp only[DataW.trod,ht,hce,hct,Nat.mul_one] at h;split at h
  ·rename_i hl;obtain⟨xs,hm,hx⟩:=Option.map_eq_some_iff.1 h;have hxs:xs.map (·.1)=ss.map fun s=>(DataW.lit (.string s):DataW H):=by have:=congrArg Prod.fst hx;simpa [Gz] using this
   have hxl:xs.length=n:=by simpa using Lib.mapM_length hm
   have hzl:ss.length=n:=by have:=congrArg List.length hxs;simp at this;omega
   apply List.ext_getElem?;intro i;by_cases hi:i<n
   ·obtain⟨b,hb,hf⟩:=Lib.mapM_at hm i i (by simp[hi]);obtain⟨s,hc,rfl,_⟩:=DataW.trod_string he hf;have h1:cs[i]? =some (.string s):=by have:=congrArg (·[0]?) hc;simpa [akP,List.getElem?_drop] using this
    have h2:(xs.map (·.1))[i]? =some (DataW.lit (.string s.data.toList):DataW H):=by simp[hb]
    rw[hxs] at h2;simp only[akO,Option.map_eq_some_iff,DataW.lit.injEq,Lit.string.injEq] at h2;obtain⟨z',hz',hz2⟩:=h2;rw[h1];simp only[strs,akO,hz',Option.map_some,akM,Value.string.injEq];subst hz2;rfl
   rw[akL (by omega),akL (by simp[strs];omega)]
  cases h
def VarReads (P:Program)(w:World)(n:String)(d:DataW Unit):Prop:=∃g t cs fuel p,P.globalNamed n=some g/\(P.globals[g]?).map (·.type)=some t/\w.var? P n=some cs/\DataW.trod (fun _=>()) P w 0 (fun _=>true) false fuel t cs.toList=some (d,p)
theorem wJ {P:Program}{w:World}:∀ {l:List (String×DataW Unit)} {ps:List MemPlace},DataW.LaidVars P w l ps->∀n d,(n,d)∈l->VarReads P w n d
 |[],_,_,_,_,hm=>by cases hm
 |(n',d')::r,ps,h,n,d,hm=>by
  obtain⟨g,t,cs,fuel,p,q,h1,h2,h3,h4,h5,_⟩:=h;rcases akx.1 hm with e|e
  ·cases e;exact⟨g,t,cs,fuel,p,h1,h2,h3,h4⟩
  exact wJ h5 n d e
theorem jy {P:Program}{w:World}{l:List (String×DataW Unit)}(h:laidMet P l w){n:String}{d:DataW Unit}(hm:(n,d)∈l):VarReads P w n d:=
 let ⟨_,hv,_⟩:=h
 wJ hv n d hm
theorem DC {P:Program}{w:World}{n:String}{g:Nat}{cs:Array Value}(hg:P.globalNamed n=some g)(h:w.var? P n=some cs):∃t fz,w.heap[g]? =some (.cells cs t fz):=by
 unfold World.var? at h;rw[hg] at h;simp only[Option.bind_some] at h;split at h
 ·rename_i cs' t fz heq;cases h;exact⟨t,fz,heq⟩
 cases h
theorem qm {P:Program}{w:World}{n:String}{ss:List B}{g:Nat}{t e:TypeId}{m:Nat}(h:VarReads P w n (Gz ss))(hg:P.globalNamed n=some g)(hty:(P.globals[g]?).map (·.type)=some t)
  (ht:P.underlying t=some (.array m e)) (he:P.underlying e=some .string) (hce:P.cellsOf e=1) (hct:P.cellsOf t=m):aiD w g (strs ss):=by
 obtain⟨g',t',cs,fuel,p,hg',ht',hv,hd⟩:=h;obtain rfl:=Option.some.inj (hg.symm.trans hg');obtain rfl:=Option.some.inj (hty.symm.trans ht');have:=Jd ht he hce hct hd;obtain⟨t2,fz,hh⟩:=DC hg hv;exact⟨t2,fz,by rw[hh,<-this]⟩
theorem Ue {P:Program}{w:World}{n:String}{k:IntKind}{zs:List Int}{g:Nat}{t e:TypeId}{m:Nat}(h:VarReads P w n (.agg (zs.map fun z=> .lit (.int k z))))(hg:P.globalNamed n=some g)(hty:(P.globals[g]?).map (·.type)=some t)
  (ht:P.underlying t=some (.array m e)) (he:P.underlying e=some (.int k)) (hce:P.cellsOf e=1) (hct:P.cellsOf t=m):aiD w g (zs.map fun z=>Value.int k z):=by
 obtain⟨g',t',cs,fuel,p,hg',ht',hv,hd⟩:=h;obtain rfl:=Option.some.inj (hg.symm.trans hg');obtain rfl:=Option.some.inj (hty.symm.trans ht');have:=Lib.cells_of_tab ht he hce hct hd;obtain⟨t2,fz,hh⟩:=DC hg hv;exact⟨t2,fz,by rw[hh,<-this]⟩
theorem TB {P:Program}{w:World}{n:String}{d:DataW Unit}{g:Nat}(h:VarReads P w n d)(hg:P.globalNamed n=some g):g<w.heap.size:=by obtain⟨g',t',cs,fuel,p,hg',ht',hv,hd⟩:=h;obtain⟨t2,fz,hh⟩:=DC hg hv;exact(akp.1 hh).1
def aic {α:Type}(R:Rel α)(size:Nat)(w:World)(S:Bs)(r:RV)(xs:List α):Prop:=r.n=xs.length/\Fl R size w S r.xs xs
theorem aic.tr {α:Type}{R:Rel α}(ok:R.Ok){size:Nat}{w w':World}{rv rv':Rows}{r:RV}{xs:List α}(h:aic R size w (Fz w rv) r xs)(t:Tr w rv w' rv'):aic R size w' (Fz w' rv') r xs:=⟨h.1,t.fl ok h.2⟩
theorem aic.nil {α:Type}(R:Rel α)(size:Nat)(w:World)(S:Bs):aic R size w S RV.nil []:=⟨rfl,Fl.nil⟩
def GlD (w:World)(S:Bs)(r0 r8 r9 r10 r11 r12 r13:RV)(gs:List ahR):Prop:=
 r0.n=gs.length/\((gs=[]/\r0.xs=[])\/∃init g ci,gs=init++[g]/\
  r0.xs=ci++[.string ⟨g.name.toArray⟩,.int .i64 g.advance,.bool g.mark,r8.v,r9.v,r10.v,r11.v,r12.v,r13.v]/\I64 g.advance/\Fl ahW 9 w S ci init/\
  aic PtR 3 w S r8 g.points/\aic ahT 1 w S r9 g.ends/\aic ah6 3 w S r10 g.parts/\aic ahY 4 w S r11 g.anchors/\aic ah3 4 w S r12 g.deltas/\aic ah5 2 w S r13 g.hint)
theorem GlD.tr {w w':World}{rv rv':Rows}{r0 r8 r9 r10 r11 r12 r13:RV}{gs:List ahR}(h:GlD w (Fz w rv) r0 r8 r9 r10 r11 r12 r13 gs)(t:Tr w rv w' rv'):GlD w' (Fz w' rv') r0 r8 r9 r10 r11 r12 r13 gs:=by
 refine⟨h.1,?_⟩;rcases h.2 with h|⟨init,g,ci,h1,h2,h3,h4,h5,h6,h7,h8,h9,h10⟩
 ·exact .inl h
 exact .inr ⟨init,g,ci,h1,h2,h3,t.fl ahW.ok h4,h5.tr PtR.ok t,h6.tr ahT.ok t,h7.tr ah6.ok t,h8.tr ahY.ok t,h9.tr ah3.ok t,h10.tr ah5.ok t⟩
def LkD (w:World)(S:Bs)(r2 r14:RV)(ls:List Lookup):Prop:=r2.n=ls.length/\((ls=[]/\r2.xs=[])\/∃init l ci,ls=init++[l]/\r2.xs=ci++[.int .i64 l.kind,.bool l.aik,r14.v]/\I64 l.kind/\Fl ah1 3 w S ci init/\aic aig 6 w S r14 l.rules)
theorem LkD.tr {w w':World}{rv rv':Rows}{r2 r14:RV}{ls:List Lookup}(h:LkD w (Fz w rv) r2 r14 ls)(t:Tr w rv w' rv'):LkD w' (Fz w' rv') r2 r14 ls:=by
 refine⟨h.1,?_⟩;rcases h.2 with h|⟨init,l,ci,h1,h2,h3,h4,h5⟩
 ·exact .inl h
 exact .inr ⟨init,l,ci,h1,h2,h3,t.fl ah1.ok h4,h5.tr aig.ok t⟩
def aiF (w:World)(S:Bs)(cm:Nat)(cls:List (B×List Int)):Prop:=∃f,ah0 lU w cm f/\∀t,(cls.lookup t=none/\f t=none)\/∃l A c,cls.lookup t=some l/\f t=some (.slice A l.length c)/\Sl ahT 1 w S A l/\l.length<=2000
structure FD (w:World)(S:Bs)(rv:Rows)(f:Fnt):Prop where
 unit:I64 f.unit
 gly:GlD w S (rv 0) (rv 8) (rv 9) (rv 10) (rv 11) (rv 12) (rv 13) f.ahO
 chr:aic ait 2 w S (rv 1) f.chars
 lks:LkD w S (rv 2) (rv 14) f.ahP
 fts:aic ah2 2 w S (rv 3) f.features
 axs:aic aij 4 w S (rv 4) f.ahQ
 rgs:aic ah7 1 w S (rv 5) f.regions
 fns:aic aih 1 w S (rv 6) f.funcs
 cvt:aic ahT 1 w S (rv 7) f.cvt
theorem FD.tr {w w':World}{rv rv':Rows}{f:Fnt}(h:FD w (Fz w rv) rv f)(t:Tr w rv w' rv'):FD w' (Fz w' rv') rv f:=⟨h.unit,h.gly.tr t,h.chr.tr ait.ok t,h.lks.tr t,h.fts.tr ah2.ok t,h.axs.tr aij.ok t,h.rgs.tr ah7.ok t,h.fns.tr aih.ok t,h.cvt.tr ahT.ok t⟩
def dV (s:PS)(rv:Rows)(gm cm:Nat):Array Value:=#[.int .i64 s.f.unit,(rv 0).v,(rv 1).v,(rv 2).v,(rv 3).v,(rv 4).v,(rv 5).v,(rv 6).v,(rv 7).v,.bool s.unit,.map (some gm),.map (some cm)]
abbrev jq:TypeId:=116
abbrev Jw:TypeId:=194
structure PSt (w:World)(Bd p gm cm:Nat)(gl:Gl)(s:PS)(rv:Rows)(K:Nat):Prop where
 par:Bk w p jq (dV s rv gm cm)
 live:Live w Bd rv
 fnt:FD w (Fz w rv) rv s.f
 gmp:ah0 lU w gm (fun t=>(gl.lookup t).map fun n=> .int .i64 (n:Nat))
 glI:∀t n,gl.lookup t=some n->n<=1000000000
 cls:aiF w (Fz w rv) cm s.cls
 few:∀j,j<15->(rv j).n<=K
 low:Bd<=p/\Bd<=gm/\Bd<=cm/\gm≠cm
theorem ah0.aiP {κ :Type}{E:Emb κ}{w:World}{b:Nat}{f: κ ->Option Value}(h:ah0 E w b f){t:TypeId}{cs:Array Value}(hb:Bk w b t cs):False:=by obtain⟨es,clock,h1⟩:=h.isMap;unfold Bk at hb;rw[h1] at hb;cases hb
theorem Bk.keep {w w':World}{g:Nat}{t:TypeId}{cs:Array Value}(h:Bk w g t cs)(hk:w'.heap[g]? =w.heap[g]?):Bk w' g t cs:=hk.trans h
theorem aiF.tr {w w':World}{rv rv':Rows}{cm:Nat}{cls:List (B×List Int)}(h:aiF w (Fz w rv) cm cls)(t:Tr w rv w' rv')(hk:w'.heap[cm]? =w.heap[cm]?):aiF w' (Fz w' rv') cm cls:=by
 obtain⟨f,h1,h2⟩:=h;refine⟨f,h1.keep hk,fun x=> ?_⟩;rcases h2 x with h|⟨l,A,c,e1,e2,e3,e4⟩
 ·exact .inl h
 exact .inr ⟨l,A,c,e1,e2,t.sl ahT.ok e3,e4⟩
theorem aiF.lt {w:World}{S:Bs}{cm:Nat}{cls:List (B×List Int)}(h:aiF w S cm cls):cm<w.heap.size:=by obtain⟨f,h1,h2⟩:=h;exact h1.lt
section
variable {w w':World} {Bd p gm cm:Nat} {gl:Gl} {s:PS} {rv:Rows} {K:Nat}
theorem PSt.mono (h:PSt w Bd p gm cm gl s rv K){K':Nat}(hK:K<=K'):PSt w Bd p gm cm gl s rv K':= {h with few:=fun j hj=>nt (h.few j hj) hK}
theorem PSt.below (h:PSt w Bd p gm cm gl s rv K)(hb:Below w.heap.size w w'):PSt w' Bd p gm cm gl s rv K:={par:=h.par.keep (hb.block p h.par.lt),live:=h.live.below hb,fnt:=h.fnt.tr (Tr.below hb),gmp:=h.gmp.below hb,glI:=h.glI,cls:=h.cls.tr (Tr.below hb) (hb.block cm h.cls.lt),few:=h.few,low:=h.low}
theorem PSt.other (h:PSt w Bd p gm cm gl s rv K){row:Nat}(hg:w.grownBy w' (some row)){t:TypeId}{cs:Array Value}(hr:Bk w row t cs)(h1:lJ t=false)(h2:t≠jq):PSt w' Bd p gm cm gl s rv K:=by
 have hr':∀g,some row=some g->∀t cs,Bk w g t cs->lJ t=false:=fun g e t' cs' hb=>by
  injection e with e
  subst e;rw[(dR hb hr).1];exact h1
 have ht:Tr w rv w' rv:=Tr.other hg hr';refine {par:=h.par.keep (hg.block p h.par.lt fun e=> ?_),live:=h.live.other hg hr',fnt:=h.fnt.tr ht,gmp:=h.gmp.grown hg fun e=> ?_,glI:=h.glI,cls:=h.cls.tr ht (hg.block cm h.cls.lt fun e=> ?_),few:=h.few,low:=h.low}
 ·injection e with e
  subst e;exact h2 (dR hr h.par).1
 ·injection e with e
  subst e;exact h.gmp.aiP hr
 injection e with e
 subst e;obtain⟨f,h1,h2⟩:=h.cls;exact h1.aiP hr
theorem PSt.drewN (h:PSt w Bd p gm cm gl s rv K)(n:Nat):PSt (w.drewN n) Bd p gm cm gl s rv K:=h.below ⟨rfl,rfl,rfl,nr _,fun _ _=>rfl⟩
theorem PSt.row_ne (h:PSt w Bd p gm cm gl s rv K){i:Nat}(hi:i<15):(rv i).v.ownBlock≠some p/\(rv i).v.ownBlock≠some gm/\(rv i).v.ownBlock≠some cm:=by
 refine⟨fun e=> ?_,fun e=> ?_,fun e=> ?_⟩<;>obtain⟨cur,hb⟩:=aV (h.live.own i hi) e
 ·have:=(dR hb h.par).1;have hd:=um i;rw[this] at hd
  revert hd
  decide
 ·exact h.gmp.aiP hb
 obtain⟨f,h1,h2⟩:=h.cls;exact h1.aiP hb
theorem PSt.row (h:PSt w Bd p gm cm gl s rv K){i:Nat}(hi:i<15){r:RV}(hg:w.grownBy w' (rv i).v.ownBlock)(ho:w'.ownsRow Bd (kT i) (kS i) r.v r.n r.xs)
  (hl:r.v.ownBlock=(rv i).v.ownBlock\/∀g,r.v.ownBlock=some g->w.heap.size<=g):
  Bk w' p jq (dV s rv gm cm)/\Live w' Bd (upd rv i r)/\Tr w rv w' (upd rv i r)/\ah0 lU w' gm (fun t=>(gl.lookup t).map fun n=> .int .i64 (n:Nat))/\aiF w' (Fz w' (upd rv i r)) cm s.cls:=by
 obtain⟨n1,n2,n3⟩:=h.row_ne hi;have ht:=Tr.row (rv:=rv) hi hg hl;exact⟨h.par.keep (hg.block p h.par.lt (fun e=>n1 e.symm)),h.live.row hi hg ho hl,ht,h.gmp.grown hg (fun e=>n2 e.symm),h.cls.tr ht (hg.block cm h.cls.lt (fun e=>n3 e.symm))⟩
theorem PSt.ajn {s':PS}{rv':Rows}{cs:Array Value}(hp:Bk w p jq cs)(hl:Live w Bd rv')(hf:FD w (Fz w rv') rv' s'.f)(hm:ah0 lU w gm (fun t=>(gl.lookup t).map fun n=> .int .i64 (n:Nat)))(hi:∀t n,gl.lookup t=some n->n<=1000000000)
  (hc:aiF w (Fz w rv') cm s'.cls) (hw:∀j,j<15->(rv' j).n<=K) (hB:Bd<=p/\Bd<=gm/\Bd<=cm/\gm≠cm) (j:Nat) (u:Value) (hcs:cs.setIfInBounds j u=dV s' rv' gm cm):PSt (w.setCell ⟨p,j,none⟩ u) Bd p gm cm gl s' rv' K:=by
 have hg:=dC w ⟨p,j,none⟩ u;have hr':∀g,some p=some g->∀t cs,Bk w g t cs->lJ t=false:=fun g e t' cs' hb=>by
  injection e with e
  subst e;rw[(dR hb hp).1];decide
 have ht:Tr w rv' (w.setCell ⟨p,j,none⟩ u) rv':=Tr.other hg hr';refine {par:= ?_,live:=hl.other hg hr',fnt:=hf.tr ht,gmp:=hm.grown hg fun e=> ?_,glI:=hi,cls:=hc.tr ht (hg.block cm hc.lt fun e=> ?_),few:=hw,low:=hB}
 ·rw[<-hcs];exact hp.set j u
 ·injection e with e
  subst e;exact hm.aiP hp
 injection e with e
 subst e;obtain⟨f,h1,h2⟩:=hc;exact h1.aiP hp
end
end
end Go.Proofs.YtkijckccfookeaaGreatDoor
