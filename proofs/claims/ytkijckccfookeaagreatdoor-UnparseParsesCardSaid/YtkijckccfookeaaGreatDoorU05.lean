/- Lemmas. -/
import Derived.Test.YtkijckccfookeaaGreatDoorU04
import Derived.Lib.SlicesCompact
import Derived.WalkSmall
import Derived.Deep.LoopGhost
import Derived.Lib.SmallJoins
import Derived.Test.YtkijckccfookeaaGreatDoorRows
set_option linter.unusedVariables false
set_option linter.unusedSimpArgs false
set_option maxRecDepth 100000
set_option maxHeartbeats 32000000
namespace Go.Proofs.YtkijckccfookeaaGreatDoor
section
open Go.RowKit
def zh (c:UInt8):Bool:=c !=32 && c !=9 && c !=10 && c !=35
def bV (w:B):Bool:= !w.isEmpty && w.all zh
theorem yN {c:UInt8}(h:zh c=true):blank c=false/\c≠35/\c≠10:=by simp only[zh,anT,bne_iff_ne,ne_eq] at h;exact⟨by simp[blank,h.1.1.1,h.1.1.2],h.2,h.1.2⟩
theorem Rl {w:B}(h:bV w=true):w≠[]:=by intro e;subst e;simp[bV] at h
theorem yu {w:B}(h:bV w=true):∀c∈w,zh c=true:=by simp only[bV,anT,an5] at h;exact h.2
def uU (ws:List B):B:=match ws with|[]=>[10]|w::r=>ay w r
def wK:Nat->List B->List (Nat×B)
 |_,[]=>[]
 |k,w::r=>(k,w)::wK (k+w.length+1) r
theorem YX (k:Nat)(ws:List B):(wK k ws).map (·.2)=ws:=by
 induction ws generalizing k with
 |nil=>rfl
 |cons w r ih=>simp[wK,ih]
theorem JZ (σ :St)(w:B)(hw:bV w=true)(hc: σ.cur=[]):w.foldl step σ =⟨σ.at'+w.length,σ.at',w,σ.told⟩:=by
 cases w with
 |nil=>simp[bV] at hw
 |cons c r=>have h1:=yN (yu hw c (by simp));rw[anW,XV _ r (by unfold step;simp[h1.1]) (fun d hd=>(yN (yu hw d (by simp[hd]))).1)];unfold step;simp[h1.1,hc];omega
theorem WS (ws:List B)(σ :St)(hc: σ.cur≠[])(h:∀w∈ws,bV w=true):((fC ws).foldl step σ).all= σ.told++[(σ.fr,σ.cur)]++wK (σ.at'+1) ws:=by
 induction ws generalizing σ with
 |nil=>simp[fC,wK,St.all,St.pend,hc]
 |cons w r ih=>
  have e:fC (w::r)=32::(w++fC r):=by simp[fC]
  have hs:step σ 32=⟨σ.at'+1,0,[],σ.all⟩:=by unfold step;rw[if_pos (by decide)]
  rw[e,anW,aoh,hs,JZ _ w (h w (by simp)) rfl,ih _ (Rl (h w (by simp))) (fun x hx=>h x (by simp[hx]))];simp[St.all,St.pend,hc,wK]
  all_goals omega
theorem YH (l:B)(h:∀c∈l,c≠35):code l=l:=by
 unfold code;induction l with
 |nil=>rfl
 |cons d r ih=>rw[List.takeWhile_cons_of_pos (by simpa using h d (by simp)),ih (fun c hc=>h c (by simp[hc]))]
theorem Q3 (ws:List B)(h:∀w∈ws,bV w=true):∀c∈fC ws,c≠35/\c≠10:=by
 intro c hc;simp only[fC,an8,anG] at hc;obtain⟨w,hw,hc|hc⟩:=hc
 ·subst hc;decide
 exact(yN (yu (h w hw) c hc)).2
theorem aat (w:B)(ws:List B)(h:∀x∈w::ws,bV x=true):one (w++fC ws)=wK 0 (w::ws):=by
 have hn:∀c∈w++fC ws,c≠35:=by
  intro c hc;rw[anz] at hc;rcases hc with hc|hc
  ·exact(yN (yu (h w (by simp)) c hc)).2.1
  exact(Q3 ws (fun x hx=>h x (by simp[hx])) c hc).1
 rw[one,YH _ hn,run,aoh,JZ st0 w (h w (by simp)) rfl,WS ws _ (Rl (h w (by simp))) (fun x hx=>h x (by simp[hx]))];simp[wK,st0]
def zy:Nat->List (List B)->List (List Wd)
 |_,[]=>[]
 |n,l::ls=>num n (wK 0 l)::zy (n+1) ls
def oK:Nat->List (List B)->List (Int×List B)
 |_,[]=>[]
 |n,l::ls=>((n:Int),l)::oK (n+1) ls
def XC (L:List (List B)):Prop:=∀l∈L,l≠[]/\∀w∈l,bV w=true
theorem Sz (L:List (List B))(n:Nat)(h:XC L):bJ n (gW (L.flatMap uU))=zy n L:=by
 induction L generalizing n with
 |nil=>simp[gW,bJ,zy,one,code,run,st0,St.all,St.pend]
 |cons l ls ih=>
  obtain⟨h1,h2⟩:=h l (by simp);cases l with
  |nil=>exact absurd rfl h1
  |cons w r=>
   have hno:∀c∈w++fC r,c≠10:=by
    intro c hc;rw[anz] at hc;rcases hc with hc|hc
    ·exact(yN (yu (h2 w (by simp)) c hc)).2.2
    exact(Q3 r (fun x hx=>h2 x (by simp[hx])) c hc).2
   have e:((w::r)::ls).flatMap uU=(w++fC r)++10::ls.flatMap uU:=by simp[uU,ay]
   rw[e,RF _ _ hno,bJ,aat w r h2,ih (n+1) (fun x hx=>h x (by simp[hx]))];simp[wK,zy]
theorem XL (L:List (List B))(h:XC L):gB (L.flatMap uU)=zy 1 L:=Sz L 1 h
theorem abw (L:List (List B))(n:Nat)(h:XC L):(zy n L).map (fun l=>((l.head?.map (·.1)).getD 0,l.map (·.2.2)))=oK n L:=by
 induction L generalizing n with
 |nil=>rfl
 |cons l ls ih=>
  obtain⟨h1,h2⟩:=h l (by simp);cases l with
  |nil=>exact absurd rfl h1
  |cons w r=>
   simp only[zy,anE,oK,ih (n+1) (fun x hx=>h x (by simp[hx]))];congr 1
   simp only[num,wK,anE,List.head?_cons,Option.map_some,Option.getD_some,aof,aoj,true_and];congr 1
   have:=YX (0+w.length+1) r;simpa [Function.comp_def] using this
theorem UF (L:List (List B))(h:XC L):linesT (L.flatMap uU)=oK 1 L:=by rw[linesT,XL L h,abw L 1 h]
theorem Yp (n:Nat)(L:List (List B)):(oK n L).map (·.2)=L:=by
 induction L generalizing n with
 |nil=>rfl
 |cons l ls ih=>simp[oK,ih]
theorem Xp (n:Nat)(a b:List (List B)):oK n (a++b)=oK n a++oK (n+a.length) b:=by
 induction a generalizing n with
 |nil=>simp[oK]
 |cons l ls ih=>simp only[anL,oK,ih,aT];rw[show n+1+ls.length=n+(ls.length+1) by omega]
theorem Cb (gl:Gl)(s:PS)(a b:List (Int×List B)):stmts gl s (a++b)=(match stmts gl s a with| .ok s'=>stmts gl s' b| .error e=> .error e):=by
 induction a generalizing s with
 |nil=>rfl
 |cons x a ih=>
  obtain⟨n,l⟩:=x;simp only[anL,stmts];cases stmt gl s l with
  |error e=>rfl
  |ok s'=>exact ih s'
def notP:Obj->Prop
 | .cells _ t _=>t≠5/\t≠130
 |_=>True
structure KP (w w':World):Prop where
 same:∀(b:Nat) (o:Obj),w.heap[b]? =some o->notP o->w'.heap[b]? =some o
 size:w.heap.size<=w'.heap.size
theorem KP.refl (w:World):KP w w:=⟨fun _ _ h _=>h,af _⟩
theorem KP.trans {a b c:World}(h:KP a b)(k:KP b c):KP a c:=⟨fun x o hx ho=>k.same x o (h.same x o hx ho) ho,nt h.size k.size⟩
theorem KP.below {w w':World}(h:Below w.heap.size w w'):KP w w':=⟨fun b o hb _=>(h.block b (anx.1 hb).1).trans hb,h.size⟩
theorem KP.alloc (w:World)(o:Obj):KP w (w.alloc o):=KP.below ((ant _ _).alloc (af _) _)
theorem KP.drewN (w:World)(n:Nat):KP w (w.drewN n):=⟨fun _ _ h _=>h,af _⟩
theorem KP.bk {w w':World}(h:KP w w'){g:Nat}{t:TypeId}{cs:Array Value}(hb:Bk w g t cs)(h1:t≠5)(h2:t≠130):Bk w' g t cs:=h.same g _ hb ⟨h1,h2⟩
def FT (w:World):Bs:=fun b=>∃o,w.heap[b]? =some o/\notP o
theorem KP.ft {w w':World}(h:KP w w'):Same (FT w) w w':=fun b ⟨o,h1,h2⟩=>(h.same b o h1 h2).trans h1.symm
theorem KP.sub {w w':World}(h:KP w w'):∀b,FT w b->FT w' b:=fun b ⟨o,h1,h2⟩=>⟨o,h.same b o h1 h2,h2⟩
theorem KP.sl {α:Type}{R:Rel α}(ok:R.Ok){size:Nat}{w w':World}{A:Option Addr}{xs:List α}(h:KP w w')(k:Sl R size w (FT w) A xs):Sl R size w' (FT w') A xs:=(k.keep ok h.ft).mono ok h.sub
theorem KP.rel {α:Type}{R:Rel α}(ok:R.Ok){w w':World}{cs:List Value}{x:α}(h:KP w w')(k:R w (FT w) cs x):R w' (FT w') cs x:=ok.mono (ok.keep k h.ft) h.sub
theorem GL {w:World}{b:Nat}{t:TypeId}{cs:Array Value}(h:Bk w b t cs)(h1:t≠5)(h2:t≠130):FT w b:=⟨_,h,h1,h2⟩
end
section
open Go.Sort
theorem MJ (n x:Int)(l:List Int):x∈pG n l ↔ x=n\/x∈l:=by
 induction l with
 |nil=>simp[pG]
 |cons y r ih=>
  rw[pG];split
  ·simp
  split
  ·rename_i h;subst h;simp
  rw[anG,ih,anG];constructor
  ·rintro(h|h|h)
   ·exact .inr (.inl h)
   ·exact .inl h
   exact .inr (.inr h)
  rintro(h|h|h)
  ·exact .inr (.inl h)
  ·exact .inl h
  exact .inr (.inr h)
theorem abJ (n:Int)(l:List Int)(h:l.Pairwise (· < ·)):(pG n l).Pairwise (· < ·):=by
 induction l with
 |nil=>simp[pG]
 |cons y r ih=>
  rw[List.pairwise_cons] at h;rw[pG];split
  ·rename_i h1;rw[List.pairwise_cons];refine⟨fun a ha=> ?_,List.pairwise_cons.2 h⟩;rcases anG.1 ha with rfl|ha
   ·exact h1
   have:=h.1 a ha;omega
  split
  ·exact List.pairwise_cons.2 h
  rw[List.pairwise_cons];refine⟨fun a ha=> ?_,ih h.2⟩;rcases(MJ n a r).1 ha with rfl|ha
  ·omega
  exact h.1 a ha
theorem CB (x:Int)(l:List Int):x∈setOf l ↔ x∈l:=by
 induction l with
 |nil=>simp[setOf]
 |cons y r ih=>show x∈pG y (setOf r) ↔ _;rw[MJ,ih,anG]
theorem aaN (l:List Int):(setOf l).Pairwise (· < ·):=by
 induction l with
 |nil=>exact List.Pairwise.nil
 |cons y r ih=>exact abJ y _ ih
theorem abA (a b:List Int)(ha:a.Pairwise (· < ·))(hb:b.Pairwise (· < ·))(h:∀x,x∈a ↔ x∈b):a=b:=by
 induction a generalizing b with
 |nil=>
  cases b with
  |nil=>rfl
  |cons y s=>exact absurd ((h y).2 (by simp)) (by simp)
 |cons x r ih=>
  cases b with
  |nil=>exact absurd ((h x).1 (by simp)) (by simp)
  |cons y s=>
   rw[List.pairwise_cons] at ha hb;have hxy:x=y:=by
    rcases anG.1 ((h x).1 (by simp)) with e|hx
    ·exact e
    rcases anG.1 ((h y).2 (by simp)) with e|hy
    ·exact e.symm
    have h1:=hb.1 x hx;have h2:=ha.1 y hy;omega
   subst hxy;congr 1
   refine ih s ha.2 hb.2 fun z=> ?_
   constructor
   ·intro hz;rcases anG.1 ((h z).1 (by simp[hz])) with e|hs
    ·have:=ha.1 z hz;omega
    exact hs
   intro hz;rcases anG.1 ((h z).2 (by simp[hz])) with e|hs
   ·have:=hb.1 z hz;omega
   exact hs
theorem aa9 (zs:List Int)(hs:zs.Pairwise (· <= ·))(m:Nat)(hm:m<=zs.length):(Lib.compactUpTo zs.toArray m).Pairwise (· < ·)/\(∀x,x∈Lib.compactUpTo zs.toArray m ↔ x∈zs.take m)/\(∀x,x∈Lib.compactUpTo zs.toArray m->0<m->x<=zs.toArray[m - 1]!):=by
 induction m with
 |zero=>exact⟨by simp[Lib.compactUpTo],by simp[Lib.compactUpTo],fun x _ h=>by omega⟩
 |succ m ih=>
  obtain⟨h1,h2,h3⟩:=ih (by omega);have hlt:m<zs.length:=by omega
  have hd:zs.toArray[m]! =zs[m]:=by simp[hlt]
  have htk:zs.take (m+1)=zs.take m++[zs[m]]:=(List.take_append_getElem hlt).symm;rw[Lib.compactUpTo_succ,hd];cases hk:Lib.keeps zs.toArray m with
  |true=>
   have hlow:∀x∈Lib.compactUpTo zs.toArray m,x<zs[m]:=by
    intro x hx;by_cases h0:m=0
    ·subst h0;simp[Lib.compactUpTo] at hx
    have hle:=h3 x hx (by omega);have hne:zs.toArray[m]! ≠zs.toArray[m - 1]! :=by unfold Lib.keeps at hk;rw[aoo] at hk;exact hk.resolve_left h0
    have hd1:zs.toArray[m - 1]! =zs[m - 1]:=by simp[show m - 1<zs.length by omega]
    rw[hd,hd1] at hne;rw[hd1] at hle;have:=List.pairwise_iff_getElem.1 hs (m - 1) m (by omega) hlt (by omega);omega
   refine⟨?_,fun x=> ?_,fun x hx _=> ?_⟩
   ·simp only[if_true];rw[List.pairwise_append];exact⟨h1,by simp,fun a ha b hb=>by simp only[anu] at hb;subst hb;exact hlow a ha⟩
   ·simp only[if_true];rw[htk,anz,anz,h2]
   rw[Nat.add_sub_cancel,hd];simp only[if_true] at hx;rcases anz.1 hx with h|h
   ·exact Int.le_of_lt (hlow x h)
   simp only[anu] at h;omega
  |false=>
   have h0:0<m:=by
    rcases Nat.eq_zero_or_pos m with h|h
    ·subst h;simp[Lib.keeps] at hk
    exact h
   have heq:zs.toArray[m]! =zs.toArray[m - 1]! :=by
    unfold Lib.keeps at hk;rw[decide_eq_false_iff_not] at hk;by_cases h:zs.toArray[m]! =zs.toArray[m - 1]!
    ·exact h
    exact absurd (.inr h) hk
   have hd1:zs.toArray[m - 1]! =zs[m - 1]:=by simp[show m - 1<zs.length by omega]
   rw[hd,hd1] at heq;simp only[Bool.false_eq_true,if_false,an0];refine⟨h1,fun x=> ?_,fun x hx _=> ?_⟩
   ·rw[htk,anz,h2,anu];constructor
    ·exact .inl
    rintro(h|h)
    ·exact h
    rw[h,heq];exact List.mem_take_iff_getElem.2 ⟨m - 1,by omega,rfl⟩
   rw[Nat.add_sub_cancel,hd];have:=h3 x hx h0;rw[hd1] at this;omega
theorem La (l:List Int):Lib.compact (l.mergeSort fun x y=>decide (x<=y))=setOf l:=by
 have hs:(l.mergeSort fun x y=>decide (x<=y)).Pairwise (· <= ·):=by have:=List.pairwise_mergeSort (le:=fun x y:Int=>decide (x<=y)) (fun a b c h1 h2=>by simp only[aoo] at*;omega) (fun a b=>by simp only[Bool.or_eq_true,aoo];omega) l;exact this.imp (fun h=>by simpa using h)
 obtain⟨h1,h2,-⟩:=aa9 _ hs _ (af _);refine abA _ _ h1 (aaN l) fun x=> ?_
 show x∈Lib.compactUpTo _ _ ↔ _;rw[h2,anA,CB];exact(List.mergeSort_perm l _).mem_iff
theorem Kv (l:List Int):(setOf l).length<=l.length:=by
 have hi:∀n l,(pG n l).length<=l.length+1:=by
  intro n l;induction l with
  |nil=>simp[pG]
  |cons y r ih=>
   rw[pG];split
   ·simp
   split
   ·simp
   simp only[aT];omega
 induction l with
 |nil=>simp[setOf]
 |cons y r ih=>show(pG y (setOf r)).length<=_;have:=hi y (setOf r);simp only[aT];omega
end
section
open Go.RowKit
def Nz {α:Type}(a:Except Int α):Prop:=∀e,a= .error e->e≠0
theorem Nz.err {α:Type}{e:Int}(h:e≠0):Nz (.error e:Except Int α):=fun x hx=>by injection hx with hx;rw[<-hx];exact h
theorem Nz.ok {α:Type}{a:α}:Nz (.ok a:Except Int α):=fun x hx=>by cases hx
theorem oH (e:Int)(s:PS):Nz (fin e s):=by
 unfold fin;split
 ·exact Nz.ok
 rename_i h;exact Nz.err h
theorem acY (gl:Gl)(cls:List (B×List Int))(t:B):Nz (mP gl cls t):=by unfold mP;split<;>split<;>first|exact Nz.ok|exact Nz.err (by decide)
theorem aaT (gl:Gl)(cls:List (B×List Int))(l:List B)(acc:List Int):Nz (nR gl cls acc l):=by
 induction l generalizing acc with
 |nil=>exact Nz.ok
 |cons t r ih=>
  rw[nR];have h:=acY gl cls t;cases ho:mP gl cls t with
  |error e=>exact Nz.err (h e ho)
  |ok c=>
   simp only;split
   ·exact Nz.err (by decide)
   exact ih _
theorem Il (gl:Gl)(cls:List (B×List Int))(l:List (List B)):Nz (kW gl cls l):=by
 induction l with
 |nil=>exact Nz.ok
 |cons t r ih=>
  rw[kW];have h:=aaT gl cls t [];cases ho:nR gl cls [] t with
  |error e=>exact Nz.err (h e ho)
  |ok c=>
   simp only;cases hr:kW gl cls r with
   |error e=>exact Nz.err (ih e hr)
   |ok x=>exact Nz.ok
theorem aco (l nm:List Int):Nz (fE l nm):=by
 unfold fE;split
 ·exact Nz.err (by decide)
 split
 ·exact Nz.err (by decide)
 exact Nz.ok
theorem dO {α:Type}{c:Prop}[Decidable c]{x y:Except Int α}(hx:Nz x)(hy:Nz y):Nz (if c then x else y):=by
 split
 ·exact hx
 exact hy
theorem Gn {α:Type}{e:Int}{x:Except Int α}(hx:Nz x):Nz (if e≠0 then .error e else x):=by
 by_cases h:e≠0
 ·rw[if_pos h];exact Nz.err h
 rw[if_neg h];exact hx
theorem n22 {α:Type}:Nz (.error 22:Except Int α):=Nz.err (by decide)
theorem n24 {α:Type}:Nz (.error 24:Except Int α):=Nz.err (by decide)
theorem acw (gl:Gl)(s:PS)(l:List B):Nz (fF gl s l):=by
 unfold fF;split
 ·exact n22
 split
 ·split
  ·refine dO n22 (dO n22 ?_);split
   ·rename_i h;exact Nz.err (Il _ _ _ _ h)
   split
   ·rename_i h;exact Nz.err (Il _ _ _ _ h)
   split
   ·rename_i h;exact Nz.err (Il _ _ _ _ h)
   dsimp only;refine Gn (dO ?_ Nz.ok);split
   ·rename_i h;exact Nz.err (aco _ _ _ h)
   exact Nz.ok
  exact n22
 exact n22
theorem abq (s:PS)(l:List B):Nz (qh s l):=by
 unfold qh;split
 ·exact Gn (dO n24 Nz.ok)
 exact n22
theorem ZY (gl:Gl)(s:PS)(l:List B):Nz (kR gl s l):=by
 unfold kR;split
 ·exact n22
 split
 ·refine Gn ?_;split
  ·rename_i h;exact Nz.err (aaT _ _ _ _ _ h)
  exact dO n24 Nz.ok
 exact n22
theorem Zw (gl:Gl)(s:PS)(l:List B):Nz (iO gl s l):=by
 unfold iO;split
 ·exact dO (Gn (dO n24 Nz.ok)) n22
 exact n22
theorem QK (gl:Gl)(s:PS)(l:List B):Nz (stmt gl s l):=by
 cases l with
 |nil=>exact n22
 |cons w r=>
  unfold stmt;refine dO (abq _ _) (dO ?_ (dO ?_ (dO (oH _ _) (dO ?_ (dO (ZY _ _ _) (dO (Zw _ _ _) (dO ?_ (dO ?_ (dO ?_ (dO ?_ (dO ?_ (dO ?_ (dO ?_ (dO (acw _ _ _) (dO ?_ n22)))))))))))))))
  ·unfold xx;split<;>first|exact oH _ _|exact n22
  ·exact dO n22 (oH _ _)
  ·exact dO n22 (oH _ _)
  ·exact dO n22 (dO n22 (oH _ _))
  ·refine dO n22 ?_;split<;>first|exact oH _ _|exact n22
  ·refine dO n22 ?_;split<;>first|exact dO n22 (oH _ _)|exact n22
  ·refine dO n22 ?_;split<;>first|exact oH _ _|exact n22
  ·exact dO n22 (dO n22 (oH _ _))
  ·unfold xI;split<;>first|exact oH _ _|exact n22
  ·unfold iW;split<;>first|exact dO (dO n22 Nz.ok) n22|exact n22
  unfold qF;split<;>first|exact oH _ _|exact n22
theorem ab4 (l:B)(σ :St):(((l.foldl step σ).told).map (fun x=>x.2.length)).sum+(l.foldl step σ).cur.length<=(σ.told.map (fun x=>x.2.length)).sum+ σ.cur.length+l.length:=by
 induction l generalizing σ with
 |nil=>simp
 |cons c r ih=>
  rw[anW];have h:=ih (step σ c);have h2:((step σ c).told.map (fun x=>x.2.length)).sum+(step σ c).cur.length<=(σ.told.map (fun x=>x.2.length)).sum+ σ.cur.length+1:=by
   unfold step;split
   ·by_cases hc: σ.cur=[]<;>simp[St.all,St.pend,hc]<;>omega
   simp only[la,aT,ln];omega
  simp only[aT];omega
theorem aaM (l:B):∀x∈one l,x.2.length<=l.length:=by
 intro x hx;have h:=ab4 (code l) st0;have hc:(code l).length<=l.length:=(List.takeWhile_sublist _).length_le;have hm:x.2.length<=((run (code l)).told.map (fun x=>x.2.length)).sum+(run (code l)).cur.length:=by
  unfold one St.all St.pend at hx;rw[anz] at hx;rcases hx with hx|hx
  ·have:∀(L:List (Nat×B)),x∈L->x.2.length<=(L.map (fun x=>x.2.length)).sum:=by
    intro L hL;induction L with
    |nil=>simp at hL
    |cons a r ih=>
     rw[anG] at hL;simp only[anE,aod];rcases hL with rfl|hL
     ·omega
     have:=ih hL;omega
   have:=this _ hx;omega
  split at hx
  ·simp at hx
  simp only[anu] at hx;subst hx;simp only;omega
 have h0:(st0.told.map (fun x=>x.2.length)).sum+st0.cur.length=0:=rfl;unfold run at hm;omega
theorem aaA (s:B):∀p∈gW s,p.length<=s.length:=by
 induction s with
 |nil=>intro p hp;simp[gW] at hp;subst hp;simp
 |cons c r ih=>
  intro p hp;rw[gW] at hp;split at hp
  ·rw[anG] at hp;rcases hp with rfl|hp
   ·simp
   have:=ih p hp;simp only[aT];omega
  cases hq:gW r with
  |nil=>exact absurd hq (NR r)
  |cons q qs=>
   rw[hq] at hp ih;simp only[anG] at hp;rcases hp with rfl|hp
   ·have:=ih q (by simp);simp only[aT];omega
   have:=ih p (by simp[hp]);simp only[aT];omega
theorem OY (K:Nat)(src:B)(hs:src.length<=K):∀r∈gB src,r.length<=K/\∀x∈r,x.2.2.length<=K:=by
 have key:∀(ps:List B) (n:Nat),(∀p∈ps,p.length<=K)->∀r∈bJ n ps,r.length<=K/\∀x∈r,x.2.2.length<=K:=by
  intro ps;induction ps with
  |nil=>intro n _ r hr;simp[bJ] at hr
  |cons p ps ih=>
   intro n hp r hr;rw[bJ,anz] at hr;rcases hr with hr|hr
   ·split at hr
    ·simp at hr
    simp only[anu] at hr;subst hr;have h1:=hp p (by simp);refine⟨by rw[Dy];exact nt (Rh p) h1,fun x hx=> ?_⟩;unfold num at hx;rw[anZ] at hx;obtain⟨y,hy,rfl⟩:=hx;exact nt (aaM p y hy) h1
   exact ih (n+1) (fun q hq=>hp q (by simp[hq])) r hr
 exact key _ _ fun p hp=>nt (aaA src p hp) hs
theorem PV (src:B)(hs:src.length<=100000000):∀r∈gB src,r.length<=100000000/\∀x∈r,x.2.2.length<=100000000:=OY 100000000 src hs
def O8 (σ :St):Int:=if σ.cur=[] then -1 else σ.fr
theorem NH {σ :St}(h: σ.cur=[]):O8 σ = -1:=by rw[O8,if_pos h]
theorem IL {σ :St}(h: σ.cur≠[]):O8 σ =(σ.fr:Int):=by rw[O8,if_neg h]
theorem UR (n:Nat)(a b:List (Nat×B)):num n (a++b)=num n a++num n b:=by simp[num]
theorem abE (n:Nat){σ :St}(h: σ.cur=[]):num n σ.all=num n σ.told:=by rw[St.all,St.pend,if_pos h,an0]
theorem abO (n:Nat)(s:B)(k:Nat)(h:(run (s.take k)).cur≠[]):num n (run (s.take k)).all=num n (run (s.take k)).told++[((n:Int),((run (s.take k)).fr:Int),(s.take k).drop (run (s.take k)).fr)]:=by rw[St.all,St.pend,if_neg h,UR,(Ry _ h).2];rfl
theorem afL (s:B)(k:Nat)(hk:k<=s.length)(h:(run (s.take k)).cur≠[]):(run (s.take k)).fr<=k:=by have:=(Ry _ h).1;rw[anQ] at this;omega
theorem WR (s:B)(k:Nat)(c:UInt8)(h:s[k]? =some c)(hb:blank c=true):(run (s.take (k+1))).told=(run (s.take k)).all/\O8 (run (s.take (k+1)))= -1:=by refine⟨?_,NH (WF s k c h hb)⟩;rw[take_snoc s k c h,ug,step,if_pos hb]
theorem abv (s:B)(k d:Nat)(hd:1<=d)(hk:k+d<=s.length)(hn:∀j c,k<=j->j<k+d->s[j]? =some c->blank c=false):
  (run (s.take (k+d))).told=(run (s.take k)).told/\(run (s.take (k+d))).cur≠[]/\(run (s.take (k+d))).fr=if(run (s.take k)).cur=[] then k else(run (s.take k)).fr:=by
 obtain⟨d,rfl⟩:∃e,d=e+1:=⟨d - 1,by omega⟩
 clear hd;induction d with
 |zero=>have hg:s[k]? =some (s[k]'(by omega)):=anw (by omega);have hb:=hn k _ (af _) (by omega) hg;have ha:=VU (s.take k);rw[anQ,Nat.min_eq_left (by omega)] at ha;rw[aoc,take_snoc s k _ hg,ug,step,if_neg (by simp[hb])];simp[ha]
 |succ d ih=>obtain⟨i1,i2,i3⟩:=ih (by omega) (fun j c h1 h2 h3=>hn j c h1 (by omega) h3);have hg:s[k+(d+1)]? =some (s[k+(d+1)]'(by omega)):=anw (by omega);have hb:=hn (k+(d+1)) _ (by omega) (by omega) hg;rw[<-aog k (d+1) 1,take_snoc s (k+(d+1)) _ hg,ug,step,if_neg (by simp[hb])];refine⟨i1,by simp,?_⟩;rw[if_neg i2];exact i3
theorem Iw (W:World)(h:Nat)(s:B)(n k:Nat)(hb:alP h s n (O8 (run (s.take k))) (num n (run (s.take k)).told) W)(hk:k<=s.length)(hs:s.length<=100000000):
  Calls Tryz.prog 120 #[.int .i64 k,.pointer (some ⟨h+1+1+1,0,none⟩),.pointer (some ⟨h+1+1,0,none⟩),.pointer (some ⟨h+1,0,none⟩),.pointer (some ⟨h,0,none⟩)] W (yB h s n (num n (run (s.take k)).all) W):=by
 by_cases hc:(run (s.take k)).cur=[]
 ·rw[NH hc] at hb;rw[abE n hc];exact ach W h s n k _ hb
 rw[IL hc] at hb;rw[abO n s k hc];refine aax W h s n _ k _ hb (afL s k hk hc) hk hs ?_;have h1:=BQ (s.take k);rw[anQ,St.all,la] at h1;rw[Dy];omega
theorem own_iterAt {w:World}{base:Nat}{e:TypeId}{size:Nat}{v:Value}{n:Nat}{xs:List Value}(h:w.ownsRow base e size v n xs){k:Nat}{s:ByteArray}{p:Nat}(hk:w.heap[k]? =some (.stringIter s p))(q:Nat):(w.iterAt k s q).ownsRow base e size v n xs:=by
 refine h.kept (row:=some k) ⟨rfl,rfl,rfl,by rw[Lib.iterAt_size];exact af _,fun i _ hne=>Lib.iterAt_other w k i s q (fun e=>hne (by rw[e]))⟩ ?_;cases hv:v.ownBlock with
 |none=>exact .inl rfl
 |some g=>
  refine .inr ?_;intro e;injection e with e
  subst e;obtain⟨cur,hb⟩:=iG h g hv;have:w.heap[g]? =_:=hb;rw[hk] at this;cases this
theorem Bk.iterAt {w:World}{g:Nat}{t:TypeId}{cs:Array Value}(h:Bk w g t cs){k:Nat}{s:ByteArray}{p:Nat}(hk:w.heap[k]? =some (.stringIter s p))(q:Nat):Bk (w.iterAt k s q) g t cs:=by refine(Lib.iterAt_other w k g s q ?_).trans h;rintro rfl;have:w.heap[g]? =_:=h;rw[hk] at this;cases this
theorem alP.iterAt {h:Nat}{s:B}{n:Nat}{f:Int}{ws:List P3}{W:World}(hb:alP h s n f ws W){k:Nat}{s':ByteArray}{p:Nat}(hk:W.heap[k]? =some (.stringIter s' p))(q:Nat):alP h s n f ws (W.iterAt k s' q):=by obtain⟨h1,h2,h3,A,c,h4,h5⟩:=hb;exact⟨h1.iterAt hk q,h2.iterAt hk q,h3.iterAt hk q,A,c,h4.iterAt hk q,own_iterAt h5 hk q⟩
def zO (w:World)(s:B)(n k:Nat)(wr:World):Prop:=wr.heap[w.heap.size+1+1+1+1]? =some (.stringIter ⟨s.toArray⟩ k)/\k<=s.length/\(∀j c,j<k->s[j]? =some c->c≠35)/\alP w.heap.size s n (O8 (run (s.take k))) (num n (run (s.take k)).told) wr/\Below w.heap.size w wr
def Bo (w:World)(s:B)(n:Nat)(e:Ending)(w':World):Prop:=∃v,e= .returned v/\w'.ownsRow w.heap.size 124 3 v (one s).length (dD (num n (one s)))/\Below w.heap.size w w'
theorem KH (w W':World)(s:B)(n k m c:Nat)(A:Option Addr)(hcode:code s=s.take k)(hm:(num n (run (s.take k)).all).length=m)(h5:W'.ownsRow (w.heap.size+1+1+1+1) 124 3 (.slice A m c) m (dD (num n (run (s.take k)).all)))(hbl:Below w.heap.size w W'):Bo w s n (.returned (.slice A m c)) W':=by refine⟨_,rfl,?_,hbl⟩;rw[Dy] at hm;rw[one,hcode,hm];exact ownsRow_base h5 (by omega)
theorem YS (s:B)(j:Nat)(c:UInt8)(h:s[j]? =some c):(ByteArray.mk s.toArray).get! j=c:=by obtain⟨h1,h2⟩:=anv.1 h;simp[ByteArray.get!,h1,h2]
theorem MF (s:B)(k:Nat)(c:UInt8)(hc:s[k]? =some c)(h35:c≠35)(hbk:blank c=false):
  ∃r d:Nat,Utf8.decode ⟨s.toArray⟩ k=(r,d)/\((r:Int)==35)=false/\((r:Int)==32)=false/\((r:Int)==9)=false/\r<=2147483647/\1<=d/\k+d<=s.length/\∀j c,k<=j->j<k+d->s[j]? =some c->blank c=false/\c≠35:=by
 have hlt:k<s.length:=(anv.1 hc).1;have hb:=byte_at s k c hc hlt;have hle:=decode_le ⟨s.toArray⟩ k;have n35:c.toNat≠35:=fun h=>h35 (UInt8.toNat_inj.1 h)
 have nbk:c.toNat≠32/\c.toNat≠9:=by simp only[blank,Bool.or_eq_false_iff,beq_eq_false_iff_ne,ne_eq] at hbk;exact⟨fun h=>hbk.1 (UInt8.toNat_inj.1 h),fun h=>hbk.2 (UInt8.toNat_inj.1 h)⟩
 by_cases ha:c.toNat<128
 ·have hd:=decode_ascii ⟨s.toArray⟩ k hlt (by rw[hb];exact ha);rw[hb] at hd;refine⟨_,_,hd,?_,?_,?_,by omega,by omega,by omega,fun j c' h1 h2 h3=> ?_⟩
  ·simp;omega
  ·simp;omega
  ·simp;omega
  obtain rfl:j=k:=by omega
  rw[hc] at h3;cases h3;exact⟨hbk,h35⟩
 obtain⟨hd1,hd2⟩:=decode_high ⟨s.toArray⟩ k hlt (by rw[hb];omega);obtain⟨hd3,hd4⟩:=Qa ⟨s.toArray⟩ k hlt;generalize Utf8.decode ⟨s.toArray⟩ k=D at*
 obtain⟨r,d⟩:=D;dsimp only at hd1 hd2 hd3 hd4 hle;refine⟨r,d,rfl,?_,?_,?_,hle,hd2,hd3,fun j c' h1 h2 h3=> ?_⟩
 ·simp;omega
 ·simp;omega
 ·simp;omega
 have h128:128<=c'.toNat:=by
  by_cases hjk:j=k
  ·subst hjk;rw[hc] at h3;cases h3;omega
  have:=hd4 (j - k) (by omega) (by omega)
  rwa [show k+(j - k)=j by omega,YS s j c' h3] at this
 refine⟨?_,fun h=>by subst h;revert h128;decide⟩;simp only[blank,Bool.or_eq_false_iff,beq_eq_false_iff_ne,ne_eq];exact⟨fun h=>by subst h;revert h128;decide,fun h=>by subst h;revert h128;decide⟩
theorem split_ok (w:World)(s:B)(n:Nat)(hs:s.length<=100000000):Calls Tryz.prog 71 #[.string ⟨s.toArray⟩,.int .i64 n] w (Bo w s n):=by
 obtain⟨W0,hW0⟩:∃W0,((((w.alloc (.cells #[.string ⟨s.toArray⟩] 9)).alloc (.cells #[.int .i64 n] 3)).alloc (.cells #[.slice none 0 0] 119)).alloc (.cells #[.int .i64 (-1)] 3)).iter ⟨s.toArray⟩ 0=W0:=⟨_,rfl⟩
 have hinv0:zO w s n 0 W0:=by
  rw[<-hW0];refine⟨?_,by omega,by omega,?_,?_⟩
  ·have:=heap_alloc_new ((((w.alloc (.cells #[.string ⟨s.toArray⟩] 9)).alloc (.cells #[.int .i64 n] 3)).alloc (.cells #[.slice none 0 0] 119)).alloc (.cells #[.int .i64 (-1)] 3)) (.stringIter ⟨s.toArray⟩ 0);simp only[World.size_alloc] at this;exact this
  ·refine⟨?_,?_,?_,none,0,?_,?_⟩
   ·exact((((Bk.new w 9 _).alloc _).alloc _).alloc _).alloc _
   ·have:=(((Bk.new (w.alloc (.cells #[.string ⟨s.toArray⟩] 9)) 3 #[.int .i64 n]).alloc (.cells #[.slice none 0 0] 119)).alloc (.cells #[.int .i64 (-1)] 3)).alloc (.stringIter ⟨s.toArray⟩ 0);simp only[World.size_alloc] at this;exact this
   ·have:=(Bk.new (((w.alloc (.cells #[.string ⟨s.toArray⟩] 9)).alloc (.cells #[.int .i64 n] 3)).alloc (.cells #[.slice none 0 0] 119)) 3 #[.int .i64 (-1)]).alloc (.stringIter ⟨s.toArray⟩ 0);simp only[World.size_alloc] at this;exact this
   ·have:=((Bk.new ((w.alloc (.cells #[.string ⟨s.toArray⟩] 9)).alloc (.cells #[.int .i64 n] 3)) 119 #[.slice none 0 0]).alloc (.cells #[.int .i64 (-1)] 3)).alloc (.stringIter ⟨s.toArray⟩ 0);simp only[World.size_alloc] at this;exact this
   simp only[List.take_zero,run,st0,List.foldl_nil,num,aoi,ln,dD,aoe];exact⟨rfl,.inl ⟨rfl,rfl⟩⟩
  exact(((((ant _ w).alloc (af _) _).alloc (by simp) _).alloc (by simp;omega) _).alloc (by simp;omega) _).alloc (by simp;omega) _
 have HW:=hd0 hW0;clear hW0;go_enter Tryz.func71,Tryz.ntmps71
 go_wp2;go_step3;go_wp2;go_step3;go_wp2;rw[HW.out];clear HW;go_loopw [8] (fun l wr=>l= .int .i64 s.length/\∃k,zO w s n k wr) (fun _ wr=>s.length - wr.iterPos (w.heap.size+1+1+1+1))
 case atStart=>exact⟨rfl,0,hinv0⟩
 case round=>
  obtain⟨rfl,k,hit,hk,hno,hbx,hbl⟩:=hrel;clear hinv0;have hpos:=iterPos_of hit;by_cases hlt:k<s.length
  ·obtain⟨c,hc⟩:∃c,s[k]? =some c:=⟨_,anw hlt⟩
   have hb:=byte_at s k c hc hlt;by_cases h35:c=35
   ·subst h35;have hcode:=hd0 (Kw s k hk hno (fun c' hc'=>by rw[hc] at hc';cases hc';rfl));have hnx:∀ty,(Instr.next (.pointer (some ⟨w.heap.size+1+1+1+1,0,none⟩)) true ty).run Tryz.prog wr=_:=fun ty=>Lib.run_next_ascii_at wr _ ⟨s.toArray⟩ k ty hit hlt (by rw[hb];decide)
    rw[hb] at hnx;have zZ:=hbx.iterAt hit (k+1);have BJ:=Lib.below_iterAt hbl (k:=w.heap.size+1+1+1+1) (by omega) ⟨s.toArray⟩ (k+1);clear hno hc hb hpos;generalize wr.iterAt (w.heap.size+1+1+1+1) ⟨s.toArray⟩ (k+1)=W1 at*
    go_wp2_with (go_at_call 120;refine(Iw _ _ s n k zZ hk hs).mono ?_;rintro e W2 ⟨rfl,hbx2,Cj,UX⟩;obtain⟨g1,g2,g3,A,c1,g4,g5⟩:=hbx2;have x4:W2.cell? ⟨w.heap.size+1+1,0,none⟩=some (.slice A (num n (run (s.take k)).all).length c1):=g4.cell 0)
    try rw[Exit.noGoto_ret]
    go_ret
    exact KH w W2 s n k _ c1 A hcode.out rfl g5 (BJ.trans Cj)
   by_cases hbk:blank c=true
   ·have hinv:Hid (∀W2,W2.heap[w.heap.size+1+1+1+1]? =some (.stringIter ⟨s.toArray⟩ (k+1))->alP w.heap.size s n (-1) (num n (run (s.take k)).all) W2->Below w.heap.size w W2->zO w s n (k+1) W2):=by
     intro W2 h1 h2 h3;obtain⟨r1,r2⟩:=WR s k c hc hbk;refine⟨h1,by omega,fun j d hj hd=> ?_,by rw[r1,r2];exact h2,h3⟩;by_cases hjk:j=k
     ·subst hjk;rw[hc] at hd;cases hd;exact h35
     exact hno j d (by omega) hd
    have hbk2:c=32\/c=9:=by simpa [blank] using hbk
    have hnx:∀ty,(Instr.next (.pointer (some ⟨w.heap.size+1+1+1+1,0,none⟩)) true ty).run Tryz.prog wr=_:=fun ty=>Lib.run_next_ascii_at wr _ ⟨s.toArray⟩ k ty hit hlt (by rw[hb];rcases hbk2 with rfl|rfl<;>decide)
    rw[hb] at hnx;have zZ:=hbx.iterAt hit (k+1);have BJ:=Lib.below_iterAt hbl (k:=w.heap.size+1+1+1+1) (by omega) ⟨s.toArray⟩ (k+1);have FO:=hd0 (Lib.iterAt_heap wr _ ⟨s.toArray⟩ k (k+1) hit);have Tc:=hd0 hpos;clear hno hc hb hpos hbk h35 hit;generalize wr.iterAt (w.heap.size+1+1+1+1) ⟨s.toArray⟩ (k+1)=W1 at*
    rcases hbk2 with rfl|rfl
    all_goals
     go_wp2_with (go_at_call 120;refine(Iw _ _ s n k zZ hk hs).mono ?_;rintro e W2 ⟨rfl,hbx2,Cj,UX⟩)
     go_roundw
     case rel=>exact⟨rfl,k+1,hinv.out W2 (UX.same _ _ FO.out rfl) hbx2 (BJ.trans Cj)⟩
     case measure=>have h1:=iterPos_of (UX.same _ _ FO.out rfl);rw[h1,Tc.out];omega
   have hd1:∃r d:Nat,Utf8.decode ⟨s.toArray⟩ k=(r,d)/\((r:Int)==35)=false/\((r:Int)==32)=false/\((r:Int)==9)=false/\r<=2147483647/\1<=d/\k+d<=s.length/\∀j c,k<=j->j<k+d->s[j]? =some c->blank c=false/\c≠35:=MF s k c hc h35 (by simpa using hbk);obtain⟨r,d,hdec,hr1,hr2,hr3,hr4,hd1,hkd,hseg⟩:=hd1;obtain⟨t1,t2,t3⟩:=abv s k d hd1 hkd (fun j c h1 h2 h3=>(hseg j c h1 h2 h3).1);have hnx:∀ty,(Instr.next (.pointer (some ⟨w.heap.size+1+1+1+1,0,none⟩)) true ty).run Tryz.prog wr=_:=fun ty=>Lib.run_next_any_at wr _ ⟨s.toArray⟩ k ty hit hlt
   rw[hdec] at hnx;have hinv:Hid (∀W2,W2.heap[w.heap.size+1+1+1+1]? =some (.stringIter ⟨s.toArray⟩ (k+d))->alP w.heap.size s n (if(run (s.take k)).cur=[] then(k:Int) else((run (s.take k)).fr:Int)) (num n (run (s.take k)).told) W2->Below w.heap.size w W2->zO w s n (k+d) W2):=by
    intro W2 h1 h2 h3;refine⟨h1,by omega,fun j e hj he=> ?_,?_,h3⟩
    ·by_cases hjk:j<k
     ·exact hno j e hjk he
     exact(hseg j e (by omega) hj he).2
    rw[IL t2,t1,t3];by_cases hq:(run (s.take k)).cur=[]
    ·simpa [hq] using h2
    simpa [hq] using h2
   have zZ:=hbx.iterAt hit (k+d);have BJ:=Lib.below_iterAt hbl (k:=w.heap.size+1+1+1+1) (by omega) ⟨s.toArray⟩ (k+d);have FO:=hd0 (Lib.iterAt_heap wr _ ⟨s.toArray⟩ k (k+d) hit);have Tc:=hd0 hpos;clear hno hc hb hpos hbk h35 hit hdec hseg t1 t2 t3 hbx hbl;simp only at hnx;generalize wr.iterAt (w.heap.size+1+1+1+1) ⟨s.toArray⟩ (k+d)=W1 at*
   by_cases hq:(run (s.take k)).cur=[]
   ·rw[NH hq] at zZ;rw[if_pos hq] at hinv;obtain⟨g1,g2,g3,A,c1,g4,g5⟩:=zZ;have x3:W1.cell? ⟨w.heap.size+1+1+1,0,none⟩=some (.int .i64 (-1)):=g3.cell 0;have y3:=g3.frozen 0;have Hq:=hd0 hq;clear hq;have sF:=hd0 (hinv.out (W1.setCell ⟨w.heap.size+1+1+1,0,none⟩ (.int .i64 k)) ((KeepsOthers.setCell _ _ _).same _ _ FO.out rfl) ⟨g1.far (by simp;omega) _,g2.far (by simp) _,g3.set 0 _,A,c1,g4.far (by simp) _,ownsRow_setCell_below g5 (by simp) _⟩ (BJ.setCell (by simp;omega) _));have hm1:=hd0 (iterPos_of ((KeepsOthers.setCell W1 ⟨w.heap.size+1+1+1,0,none⟩ (.int .i64 k)).same _ _ FO.out rfl));clear g1 g2 g3 g4 g5 hinv BJ;go_wp2;go_roundw
    case rel=>exact⟨rfl,k+d,sF.out⟩
    case measure=>rw[hm1.out,Tc.out];omega
   rw[IL hq] at zZ;rw[if_neg hq] at hinv;have sF:=hd0 (hinv.out W1 FO.out zZ BJ);obtain⟨g1,g2,g3,A,c1,g4,g5⟩:=zZ;have x3:W1.cell? ⟨w.heap.size+1+1+1,0,none⟩=some (.int .i64 ((run (s.take k)).fr:Int)):=g3.cell 0;clear hq g1 g2 g3 g4 g5 hinv BJ;have hm1:=hd0 (iterPos_of FO.out);go_wp2;go_roundw
   case rel=>exact⟨rfl,k+d,sF.out⟩
   case measure=>rw[hm1.out,Tc.out];omega
  obtain rfl:k=s.length:=by omega
  have hcode:=hd0 (Kw s s.length hk hno (fun c' hc'=>by rw[anU (af _)] at hc';cases hc'));have hnx:∀ty,(Instr.next (.pointer (some ⟨w.heap.size+1+1+1+1,0,none⟩)) true ty).run Tryz.prog wr=_:=fun ty=>Lib.run_next_end_at wr _ ⟨s.toArray⟩ s.length ty hit hlt
  clear hno hpos hit;go_wp2_with (go_at_call 120;refine(Iw _ _ s n s.length hbx hk hs).mono ?_;rintro e W2 ⟨rfl,hbx2,Cj,UX⟩;obtain⟨g1,g2,g3,A,c1,g4,g5⟩:=hbx2;have x4:W2.cell? ⟨w.heap.size+1+1,0,none⟩=some (.slice A (num n (run (s.take s.length)).all).length c1):=g4.cell 0)
  try rw[Exit.noGoto_ret]
  go_ret
  refine KH w W2 s n s.length _ c1 A hcode.out (by rw[anA]) ?_ (hbl.trans Cj);rw[anA] at g5 ⊢;exact g5
end
section
open Go.ChangeShapes Go.WideShapes Go.Deep Go.Joins Go.RowKit
theorem ado:Tryz.prog.cellsOf 3=1:=by kernel_rfl
section
variable {H:Type} {enc:TypeId×Value->H} {w:World} {base:Nat} {held:Bool}
theorem Vj {fuel:Nat}{c0:Value}{x:DataW H×List MemPlace}(h:DataW.trod enc Tryz.prog w base (fun _=>true) held fuel 22 [c0]=some x):
  ∃(A:Option Addr) (n c:Nat) (zs:List Int),c0= .slice A n c/\n<=c/\c<=maxLen/\Rd w w.heap.size A n 1 (aH zs)/\∀z∈zs,I64 z:=by
 rcases open_ints Tryz.underlying22 Tryz.underlying3 ado h with⟨hcs,_⟩|⟨a,len,cap,zs,hcs,_,hl,hm,hz,_,hcell,hwz⟩
 ·simp only[aol,and_true] at hcs;exact⟨none,0,0,[],hcs,by omega,by simp,Rd.nil _ _ _ _,by simp⟩
 simp only[aol,and_true] at hcs;have hz':zs.length=cap:=by simpa using hz
 have hlen:(aH (zs.take len)).length=len*1:=by rw[aH,anB,anQ,hz'];have:=Nat.min_eq_left hl;omega
 have h64:∀z∈zs.take len,I64 z:=fun z hz=>bounds_i64 (hwz z (List.mem_of_mem_take hz))
 refine⟨some a,len,cap,zs.take len,hcs,hl,hm,⟨hlen,fun hn=> ?_⟩,h64⟩;obtain⟨b,o,s⟩:=a;have h0:=hcell 0 (by omega);have hs:s=none:=by simpa [Addr.add] using World.cell?_spot h0
 subst hs;have hlt:b<w.heap.size:=by rw[addr_add] at h0;exact World.block_lt_of_cell? w _ h0
 refine⟨b,o,rfl,hlt,fun j u hu=> ?_⟩;simp only[aH,cI,anX,Option.map_eq_some_iff] at hu;obtain⟨q,hq,rfl⟩:=hu;rw[anY] at hq;split at hq
 ·have h1:=hcell j (anv.1 hq).1;rw[addr_add,List.getD_eq_getElem?_getD,hq] at h1;exact h1
 cases hq
theorem Yf {W:World}{r:Reach}{v:Value}{d:DataW H}{p:List MemPlace}(hok:Value.okWide Tryz.prog W r base 22 v)(h:DataW.Trod enc Tryz.prog W 0 (fun _=>true) true 22 v d p):
  ∃(A:Option Addr) (n c:Nat) (zs:List Int),v= .slice A n c/\n<=c/\c<=maxLen/\(Rd W W.heap.size A n 1 (aH zs)/\∀z∈zs,I64 z):=by
 obtain⟨a,len,cap,rfl⟩:=okWide_slice Tryz.underlying22 hok;obtain⟨fuel,hf⟩:=h;exact Vj hf
end
end
section
open Go.RowKit
def IA {H:Type}(ss:List B):DataW H:= .agg (ss.map fun s=> .lit (.string s))
theorem Ll {H:Type}{enc:TypeId×Value->H}{P:Program}{w:World}{base:Nat}{sp:Nat->Bool}{held:Bool}{fuel:Nat}{t e:TypeId}{n:Nat}{cs:List Value}{ss:List B}{p:List MemPlace}
  (ht:P.underlying t=some (.array n e)) (he:P.underlying e=some .string) (hce:P.cellsOf e=1) (hct:P.cellsOf t=n)
  (h:DataW.trod enc P w base sp held fuel t cs=some (IA ss,p)):cs=strs ss:=by
 cases fuel with
 |zero=>simp[DataW.trod] at h
 |succ fuel=>
  simp only[DataW.trod,ht,hce,hct,Nat.mul_one] at h;split at h
  ·rename_i hl;obtain⟨xs,hm,hx⟩:=Option.map_eq_some_iff.1 h;have hxs:xs.map (·.1)=ss.map fun s=>(DataW.lit (.string s):DataW H):=by have:=congrArg Prod.fst hx;simpa [IA] using this
   have hxl:xs.length=n:=by simpa using Lib.mapM_length hm
   have hzl:ss.length=n:=by have:=congrArg List.length hxs;simp at this;omega
   apply List.ext_getElem?;intro i;by_cases hi:i<n
   ·obtain⟨b,hb,hf⟩:=Lib.mapM_at hm i i (by simp[hi]);obtain⟨s,hc,rfl,_⟩:=DataW.trod_string he hf;have h1:cs[i]? =some (.string s):=by have:=congrArg (·[0]?) hc;simpa [anY,List.getElem?_drop] using this
    have h2:(xs.map (·.1))[i]? =some (DataW.lit (.string s.data.toList):DataW H):=by simp[hb]
    rw[hxs] at h2;simp only[anX,Option.map_eq_some_iff,DataW.lit.injEq,Lit.string.injEq] at h2;obtain⟨z',hz',hz2⟩:=h2;rw[h1];simp only[strs,anX,hz',Option.map_some,anV,Value.string.injEq];subst hz2;rfl
   rw[anU (by omega),anU (by simp[strs];omega)]
  cases h
def VarReads (P:Program)(w:World)(n:String)(d:DataW Unit):Prop:=∃g t cs fuel p,P.globalNamed n=some g/\(P.globals[g]?).map (·.type)=some t/\w.var? P n=some cs/\DataW.trod (fun _=>()) P w 0 (fun _=>true) false fuel t cs.toList=some (d,p)
theorem yM {P:Program}{w:World}:∀ {l:List (String×DataW Unit)} {ps:List MemPlace},DataW.LaidVars P w l ps->∀n d,(n,d)∈l->VarReads P w n d
 |[],_,_,_,_,hm=>by cases hm
 |(n',d')::r,ps,h,n,d,hm=>by
  obtain⟨g,t,cs,fuel,p,q,h1,h2,h3,h4,h5,_⟩:=h;rcases anG.1 hm with e|e
  ·cases e;exact⟨g,t,cs,fuel,p,h1,h2,h3,h4⟩
  exact yM h5 n d e
theorem jL {P:Program}{w:World}{l:List (String×DataW Unit)}(h:laidMet P l w){n:String}{d:DataW Unit}(hm:(n,d)∈l):VarReads P w n d:=
 let ⟨_,hv,_⟩:=h
 yM hv n d hm
theorem EZ {P:Program}{w:World}{n:String}{g:Nat}{cs:Array Value}(hg:P.globalNamed n=some g)(h:w.var? P n=some cs):∃t fz,w.heap[g]? =some (.cells cs t fz):=by
 unfold World.var? at h;rw[hg] at h;simp only[Option.bind_some] at h;split at h
 ·rename_i cs' t fz heq;cases h;exact⟨t,fz,heq⟩
 cases h
theorem qX {P:Program}{w:World}{n:String}{ss:List B}{g:Nat}{t e:TypeId}{m:Nat}(h:VarReads P w n (IA ss))(hg:P.globalNamed n=some g)(hty:(P.globals[g]?).map (·.type)=some t)
  (ht:P.underlying t=some (.array m e)) (he:P.underlying e=some .string) (hce:P.cellsOf e=1) (hct:P.cellsOf t=m):alE w g (strs ss):=by
 obtain⟨g',t',cs,fuel,p,hg',ht',hv,hd⟩:=h;obtain rfl:=Option.some.inj (hg.symm.trans hg');obtain rfl:=Option.some.inj (hty.symm.trans ht');have:=Ll ht he hce hct hd;obtain⟨t2,fz,hh⟩:=EZ hg hv;exact⟨t2,fz,by rw[hh,<-this]⟩
theorem W9 {P:Program}{w:World}{n:String}{k:IntKind}{zs:List Int}{g:Nat}{t e:TypeId}{m:Nat}(h:VarReads P w n (.agg (zs.map fun z=> .lit (.int k z))))(hg:P.globalNamed n=some g)(hty:(P.globals[g]?).map (·.type)=some t)
  (ht:P.underlying t=some (.array m e)) (he:P.underlying e=some (.int k)) (hce:P.cellsOf e=1) (hct:P.cellsOf t=m):alE w g (zs.map fun z=>Value.int k z):=by
 obtain⟨g',t',cs,fuel,p,hg',ht',hv,hd⟩:=h;obtain rfl:=Option.some.inj (hg.symm.trans hg');obtain rfl:=Option.some.inj (hty.symm.trans ht');have:=Lib.cells_of_tab ht he hce hct hd;obtain⟨t2,fz,hh⟩:=EZ hg hv;exact⟨t2,fz,by rw[hh,<-this]⟩
theorem VR {P:Program}{w:World}{n:String}{d:DataW Unit}{g:Nat}(h:VarReads P w n d)(hg:P.globalNamed n=some g):g<w.heap.size:=by obtain⟨g',t',cs,fuel,p,hg',ht',hv,hd⟩:=h;obtain⟨t2,fz,hh⟩:=EZ hg hv;exact(anx.1 hh).1
end
end Go.Proofs.YtkijckccfookeaaGreatDoor
