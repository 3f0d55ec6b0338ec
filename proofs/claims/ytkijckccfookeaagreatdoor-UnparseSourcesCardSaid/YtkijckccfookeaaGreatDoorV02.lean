/- Lemmas. -/
import Derived.Test.YtkijckccfookeaaGreatDoorV00
import Derived.Test.YtkijckccfookeaaGreatDoorProg
import Derived.BigQuiet
import Derived.RangeFuncNested
import Derived.RangeFuncBound
import Derived.Shelf.Abstract
import Derived.Lib.ItoaNum
import Derived.Lib.MinMax
import Derived.WalkSpells
import Derived.Lib.IndexLaws
set_option linter.unusedVariables false
set_option linter.unusedSimpArgs false
set_option maxRecDepth 100000
set_option maxHeartbeats 32000000
namespace Go.Proofs.YtkijckccfookeaaGreatDoor
section
open Go.RowKit
structure WIn (S:World->Prop) where
 w:World
 ok:S w
theorem bP {P:Program}{id:Nat}{Q:Exit->Act->World->Prop}{a:Act}{w:World}{l:List Oper}(S:World->Prop)(hm:P.follows .mixedOrders=true)(hB:Region.lexB .any l.toArray=true)(hS:S {w with drawn:=w.drawn+1})
  (h:wpQuiet P l.toArray (fun w'=>∃x:WIn S,w'=x.w) (fun a'=>∀w',(∃x:WIn S,w'=x.w)->Q .normal a' w') l a):(Code.region id l.toArray true).wp P Q a w:=
 wp_region_quiet (C:=fun w'=>∃x:WIn S,w'=x.w) hm hB ⟨⟨_,hS⟩,rfl⟩ h
end
section
open Go.RowKit Go.Shelf
def abI {α:Type}(J:List α->World->Prop)(Bx:List α->Prop)(R:World->World->Prop)(l:Nat)(xs:List α)(W:World)(e:Ending)(W':World):Prop:=
 (e= .returned (.bool true)/\J xs W'/\R W W'/\KeepsOthers W W')\/
 (e= .returned (.bool false)/\Bx xs/\W.heap.size<=W'.heap.size/\∀(j:Nat) (o:Obj),j≠l->W.heap[j]? =some o->o.isCells=false->W'.heap[j]? =some o)
def TJ {α:Type}(P:Program)(cs gf:Nat)(lb:Array Value)(encs:α->Array Value)(R:World->World->Prop)(S:List α->World->Prop)(Sp:List α->Prop)(N:Nat)(w:World):Prop:=
 ∀(l n:Nat) (J:List α->World->Prop) (Bx:List α->Prop) (W:World),8<=n->l<W.heap.size->Below w.heap.size w W->OwnFrom W.heap.size J->(∀pre W1 v,J pre W1->J pre (W1.setCell ⟨cs,0,none⟩ v))->
  (∀pre x W1,J pre W1->pre.length<N->YieldAt Fence.wide 0 P l (encs x) W1 (abI J Bx R l (pre++[x]) W1))->J [] W->
  CallsIn Fence.wide n P gf (#[.func (.yield l) #[] #[]]++lb) W fun e W'=>(∃v,e= .returned v)/\((∃xs,S xs W'/\J xs W')\/(∃pre,Sp pre/\Bx pre))
def ZC {α:Type}(I:List α->World->Prop)(Bx:List α->Prop)(R:World->World->Prop)(xs:List α)(W:World):Exit->Act->World->Prop
 | .normal,_,W'=>I xs W'/\R W W'/\KeepsOthers W W'
 | .ret,_,W'=>Bx xs/\KeepsOthers W W'
 |_,_,_=>False
theorem EY {P:Program}{α:Type}{g:Operand}{ps:Array Tmp}{assign body:Code}{Q:Exit->Act->World->Prop}{a:Act}{w:World}{n cs gf:Nat}{lb:Array Value}
  (hn:9<=n) (hg:a.eval g= .func (.func gf) #[] lb) (eg:∀args w,(callFunc gf args).run P w= .ok (.enter gf args) w)
  {encs:α->Array Value} (hps:∀x,(encs x).size=ps.size) {R:World->World->Prop} {S:List α->World->Prop} {Sp Bx:List α->Prop} {N:Nat} (hit:TJ P cs gf lb encs R S Sp N w) (hno:∀pre,Sp pre->Bx pre->False)
  (hRt:∀ {A B C:World},R A B->R B C->R A C) (hRp:∀(W:World) (l:Nat) (o o':Obj),W.heap[l]? =some o->o.isCells=false->R W (W.putObj l o'))
  (hSp:∀(xs:List α) (W:World) (l:Nat) (o o':Obj),S xs W->W.heap[l]? =some o->o.isCells=false->S xs (W.putObj l o'))
  (I:List α->World->Prop) (hI:OwnFrom w.heap.size I) (hIc:∀pre W v,I pre W->I pre (W.setCell ⟨cs,0,none⟩ v)) (h0:I [] w) (a1:α->Act)
  (hassign:∀(l:Nat) (x:α) (W:World) (K:Act->World->Prop),K (a1 x) W->assign.wpIn (Fence.wide.inRound l) 0 P (Exit.then K (fun _ _ _=>False)) {tmps:=(ps.zip (encs x)).foldl (fun t (p,v)=>t.setIfInBounds p v) a.tmps,defers:=[]} W)
  (hbody:∀(l:Nat) (pre:List α) (x:α) (W:World),I pre W->pre.length<N->body.wpIn (Fence.wide.inRound l) 0 P (ZC I Bx R (pre++[x]) W) (a1 x) W)
  (hdone:∀(D:Nat) (xs:List α) (W:World),w.heap.size<=D->S xs W->I xs W->W.heap[D]? =some (.deferred (some []))->Q .normal {a with defers:= {target:= .collected D,args:= #[]} ::a.defers} W):
  (Code.rangeFunc g ps assign body).wpIn Fence.wide n P Q a w:=by
 refine wpIn_rangeFunc ?_;intro fn hfn;obtain⟨rc,hrc⟩:∃rc:LoopState->Loop,rc=fun st=> {state:=st,pending:=none,fn,tmps:=a.tmps,params:=ps,assign,body,defers:=w.heap.size} :=⟨_,rfl⟩
 obtain⟨V,hV⟩:∃V,(w.alloc (.deferred (some []))).alloc (.loop (rc .ready))=V:=⟨_,rfl⟩
 have hVs:V.heap.size=w.heap.size+2:=by rw[<-hV];simp
 have hVl:V.heap[w.heap.size+1]? =some (.loop (rc .ready)):=by have h:=World.alloc_heap_new (w.alloc (.deferred (some []))) (.loop (rc .ready));rw[World.size_alloc] at h;rw[<-hV];exact h
 have hVd:V.heap[w.heap.size]? =some (.deferred (some [])):=by rw[<-hV];exact(Below.heap_alloc _ _ _ (by simp)).trans (World.alloc_heap_new w _)
 have hVb:Below w.heap.size w V:=by rw[<-hV];exact((akl _ w).alloc (nr _) _).alloc (by simp) _
 have hVi:I [] V:=by rw[<-hV];exact hI.alloc _ (hI.alloc _ h0)
 refine⟨w.heap.size+1,[{target:= .collected w.heap.size,args:= #[]}],V,{target:= .fn (.func gf) lb,args:= #[.func (.yield (w.heap.size+1)) #[] #[]]},V,gf,#[.func (.yield (w.heap.size+1)) #[] #[]]++lb,V,?_,?_,?_,?_,fun _=>by omega,?_⟩
 ·rw[<-hV,hrc];exact run_enterLoop_outer _ _ _ _ _
 ·simp only[resolve,hg];simp[go_sem]
 ·intro f' _;trivial
 ·simp[invoke,go_sem,eg]
 have hJo:OwnFrom V.heap.size (fun pre W=>I pre W/\W.heap[w.heap.size+1]? =some (.loop (rc .ready))/\W.heap[w.heap.size]? =some (.deferred (some []))):=by
  intro s A B row hs hgr hr;have hlow:∀k,k<w.heap.size+2->∀o,A.heap[k]? =some o->B.heap[k]? =some o:=fun k hk o ho=>(hgr.block k (akp.1 ho).1 (fun e=>by have:=(hr k e.symm).1;omega)).trans ho
  exact⟨hI s A B row hs.1 hgr (fun r e=>⟨by have:=(hr r e).1;omega,(hr r e).2⟩),hlow _ (by omega) _ hs.2.1,hlow _ (by omega) _ hs.2.2⟩
 refine(hit (w.heap.size+1) (n - 1) _ Bx V (by omega) (by omega) hVb hJo (fun pre W1 v h=>⟨hIc pre W1 v h.1,(KeepsOthers.setCell W1 ⟨cs,0,none⟩ v).same _ _ h.2.1 rfl,(KeepsOthers.setCell W1 ⟨cs,0,none⟩ v).same _ _ h.2.2 rfl⟩) ?_ ⟨hVi,hVl,hVd⟩).mono ?_
 ·rintro pre x W ⟨hi,hl,hd⟩ ac8;have hlt:=(akp.1 hl).1;have hy:=run_yield (P:=P) (args:=encs x) hl (by rw[hrc];exact hps x);rw[hrc] at hy;refine⟨fn,_,assign,body,hy,roundIn_of_wpIn hfn (hassign _ x W _ ⟨_,run_beginRound hl (by rw[hrc]),?_⟩)⟩;have hl2:(W.putObj (w.heap.size+1) (.loop {rc .ready with state:= .busy})).heap[w.heap.size+1]? =some (.loop {rc .ready with state:= .busy}):=World.putObj_heap_same hlt;have hd2:(W.putObj (w.heap.size+1) (.loop {rc .ready with state:= .busy})).heap[w.heap.size]? =some (.deferred (some [])):=(World.putObj_heap_other (by omega)).trans hd;have hr2:R W (W.putObj (w.heap.size+1) (.loop {rc .ready with state:= .busy})):=hRp _ _ _ _ hl rfl;refine wpIn_mono (hbody _ pre x _ (hI.putObj _ hi (by omega) hl rfl) ac8) ?_;rintro e a3 W3 hp;cases e with
  |normal=>
   obtain⟨hi3,hr3,hk3⟩:=hp;have hl3:=hk3.same _ _ hl2 rfl;have hd3:=hk3.same _ _ hd2 rfl;have hrun:=run_endRound (P:=P) none hl3;have hsame:({{rc .ready with state:= .busy} with state:=if(none:Option Code).isNone then LoopState.ready else .done,pending:=none} :Loop)=rc .ready:=by rw[hrc];rfl
   rw[hsame] at hrun;have hl4:(W3.putObj (w.heap.size+1) (.loop (rc .ready))).heap[w.heap.size+1]? =some (.loop (rc .ready)):=World.putObj_heap_same (akp.1 hl3).1;refine⟨_,_,hrun,.inl ⟨rfl,⟨hI.putObj _ hi3 (by omega) hl3 rfl,hl4,(World.putObj_heap_other (by omega)).trans hd3⟩,hRt (hRt hr2 hr3) (hRp _ _ _ _ hl3 rfl),?_,fun j o hj ho=> ?_⟩⟩
   ·have h1:=hk3.size;simp at h1 ⊢;exact h1
   by_cases hjl:j=w.heap.size+1
   ·subst hjl;rw[hl] at hj;cases hj;exact hl4
   exact(World.putObj_heap_other hjl).trans (hk3.same j o ((World.putObj_heap_other hjl).trans hj) ho)
  |ret=>
   obtain⟨hb3,hk3⟩:=hp;have hl3:=hk3.same _ _ hl2 rfl;refine⟨_,_,run_endRound (P:=P) (some .ret) hl3,.inr ⟨rfl,hb3,?_,fun j o hj ho hc=> ?_⟩⟩
   ·have h1:=hk3.size;simp at h1 ⊢;exact h1
   exact(World.putObj_heap_other hj).trans (hk3.same j o ((World.putObj_heap_other hj).trans ho) hc)
  |exit id=>exact hp.elim
  |goto t=>exact hp.elim
  |panic ch=>exact hp.elim
  |outgrown=>exact hp.elim
 rintro e W2 ⟨⟨v,rfl⟩,(⟨xs,hS,hi,hl,hd⟩|⟨pre,adQ,hBx⟩)⟩
 rotate_left
 ·exact(hno pre adQ hBx).elim
 have hrun:=run_endLoop (P:=P) hl (by rw[hrc];simp);have hpn:(rc .ready).pending=none:=by rw[hrc]
 rw[hpn] at hrun;refine⟨none,_,hrun,?_⟩;exact hdone _ xs _ (nr _) (hSp _ _ _ _ _ hS hl rfl) (hI.putObj _ hi (by omega) hl rfl) ((World.putObj_heap_other (by omega)).trans hd)
end
section
open Go.RowKit
def Bk (w:World)(g:Nat)(t:TypeId)(cs:Array Value):Prop:=w.heap[g]? =some (.cells cs t (0,0))
theorem Bk.cell {w:World}{g:Nat}{t:TypeId}{cs:Array Value}(h:Bk w g t cs)(i:Nat):w.cell? ⟨g,i,none⟩=cs[i]? :=by unfold Bk at h;simp[World.cell?,h]
theorem Bk.frozen {w:World}{g:Nat}{t:TypeId}{cs:Array Value}(h:Bk w g t cs)(i:Nat):w.frozen? ⟨g,i,none⟩=false:=by unfold Bk at h;simp[World.frozen?,h]
theorem Bk.lt {w:World}{g:Nat}{t:TypeId}{cs:Array Value}(h:Bk w g t cs):g<w.heap.size:=(akp.1 h).1
theorem Bk.alloc {w:World}{g:Nat}{t:TypeId}{cs:Array Value}(h:Bk w g t cs)(o:Obj):Bk (w.alloc o) g t cs:=(Below.heap_alloc w o g h.lt).trans h
theorem Bk.set {w:World}{g:Nat}{t:TypeId}{cs:Array Value}(h:Bk w g t cs)(i:Nat)(u:Value):Bk (w.setCell ⟨g,i,none⟩ u) g t (cs.setIfInBounds i u):=by unfold Bk at h ⊢;simp[World.setCell,Array.getElem?_modify,h]
theorem Bk.far {w:World}{g:Nat}{t:TypeId}{cs:Array Value}(h:Bk w g t cs){p:Addr}(hp:g≠p.block)(u:Value):Bk (w.setCell p u) g t cs:=(Below.heap_setCell w p u g hp).trans h
theorem Bk.drew {w:World}{g:Nat}{t:TypeId}{cs:Array Value}(h:Bk w g t cs):Bk w.drew g t cs:=h
theorem Rd.new (w:World)(cs:Array Value)(t:TypeId)(n size:Nat)(h:cs.size=n*size):Rd (w.alloc (.cells cs t)) (w.heap.size+1) (some ⟨w.heap.size,0,none⟩) n size cs.toList:=
 ⟨by simpa using h,fun _=>⟨_,_,rfl,by omega,fun j u hu=>by
  have h1:(w.alloc (.cells cs t)).heap[w.heap.size]? =some (.cells cs t):=heap_alloc_new w _;have:=World.news_of_block h1 j u hu
  rwa [addr_add] at this⟩⟩
theorem Rd.newAt (w:World)(h:Nat)(hh:w.heap.size=h)(cs:Array Value)(t:TypeId)(n size:Nat)(hs:cs.size=n*size):Rd (w.alloc (.cells cs t)) (h+1) (some ⟨h,0,none⟩) n size cs.toList:=by subst hh;exact Rd.new w cs t n size hs
def RdT (w:World)(t:TypeId)(A:Option Addr)(n size:Nat)(cs:List Value):Prop:=cs.length=n*size/\(0<n->∃b o cur,A=some ⟨b,o,none⟩/\Bk w b t cur/\∀j u,cs[j]? =some u->cur[o+j]? =some u)
theorem RdT.rd {w:World}{t:TypeId}{A:Option Addr}{n size:Nat}{cs:List Value}(h:RdT w t A n size cs):Rd w w.heap.size A n size cs:=
 ⟨h.1,fun hn=>by
  obtain⟨b,o,cur,e,hb,hc⟩:=h.2 hn;exact⟨b,o,e,hb.lt,fun j u hu=>by rw[hb.cell];exact hc j u hu⟩⟩
theorem RdT.below {w w':World}{t:TypeId}{A:Option Addr}{n size:Nat}{cs:List Value}(h:RdT w t A n size cs)(hb:Below w.heap.size w w'):RdT w' t A n size cs:=
 ⟨h.1,fun hn=>by
  obtain⟨b,o,cur,e,hb',hc⟩:=h.2 hn;exact⟨b,o,cur,e,(hb.block b hb'.lt).trans hb',hc⟩⟩
theorem RdT.grown {w w':World}{t:TypeId}{A:Option Addr}{n size:Nat}{cs:List Value}{row:Option Nat}(h:RdT w t A n size cs)(hg:w.grownBy w' row)(hr:∀g,row=some g->∃cur t',Bk w g t' cur/\t≠t'):RdT w' t A n size cs:=
 ⟨h.1,fun hn=>by
  obtain⟨b,o,cur,e,hb',hc⟩:=h.2 hn;refine⟨b,o,cur,e,(hg.block b hb'.lt (fun e=> ?_)).trans hb',hc⟩;obtain⟨cur',t',hk,hne⟩:=hr b e.symm;have hb2:w.heap[b]? =_:=hb';have hk2:w.heap[b]? =_:=hk;rw[hb2] at hk2;injection hk2 with h1
  injection h1 with _ h2
  exact hne h2⟩
theorem oO {w:World}{base:Nat}{e:TypeId}{size:Nat}{v:Value}{n:Nat}{xs:List Value}(h:w.ownsRow base e size v n xs):∀g,v.ownBlock=some g->∃cur,Bk w g e cur:=by
 intro g hg;rcases h.2 with⟨rfl,_⟩|⟨g',cap,cur,rfl,_,hh,_⟩
 ·simp[Value.ownBlock] at hg
 simp only[Value.ownBlock,akM] at hg;subst hg;exact⟨cur,hh⟩
theorem Bk.grown {w w':World}{g:Nat}{t e:TypeId}{cs:Array Value}(h:Bk w g t cs){v:Value}{base size n:Nat}{xs:List Value}(hg:w.grownBy w' v.ownBlock)(ho:w.ownsRow base e size v n xs)(hne:t≠e):Bk w' g t cs:=
 (hg.block g h.lt (fun e'=>by
  obtain⟨cur,hk⟩:=oO ho g e'.symm;have hb2:w.heap[g]? =_:=h;have hk2:w.heap[g]? =_:=hk;rw[hb2] at hk2;injection hk2 with h1
  injection h1 with _ h2
  exact hne h2)).trans h
theorem Bk.new (w:World)(t:TypeId)(cs:Array Value):Bk (w.alloc (.cells cs t)) w.heap.size t cs:=heap_alloc_new w _
theorem RdT.other {w w':World}{t:TypeId}{A:Option Addr}{n size:Nat}{cs:List Value}{row:Option Nat}(h:RdT w t A n size cs)(hg:w.grownBy w' row)(hr:∀r,row=some r->∃o:Obj,w.heap[r]? =some o/\o.isCells=false):RdT w' t A n size cs:=
 ⟨h.1,fun hn=>by
  obtain⟨b,o,cur,e,hb',hc⟩:=h.2 hn;refine⟨b,o,cur,e,(hg.block b hb'.lt (fun e=> ?_)).trans hb',hc⟩;obtain⟨o',ho,hc⟩:=hr b e.symm;have hb2:w.heap[b]? =_:=hb';rw[hb2] at ho;cases ho;cases hc⟩
theorem ownsRow_base {w:World}{b b':Nat}{e:TypeId}{size:Nat}{v:Value}{n:Nat}{xs:List Value}(h:w.ownsRow b e size v n xs)(hb:b'<=b):w.ownsRow b' e size v n xs:=⟨h.1,h.2.imp id (fun⟨g,cap,cur,h1,h2,h3⟩=>⟨g,cap,cur,h1,by omega,h3⟩)⟩
theorem jf {w:World}{base n size c:Nat}{e:TypeId}{A:Option Addr}{xs:List Value}(h:w.ownsRow base e size (.slice A n c) n xs):RdT w e A n size xs:=by
 refine⟨h.1,fun hn=> ?_⟩;rcases h.2 with⟨h1,_⟩|⟨g,cap,cur,h1,_,hh,_,_,_,htk⟩
 ·simp only[alh] at h1;omega
 simp only[alh,true_and] at h1;obtain⟨rfl,rfl⟩:=h1;refine⟨g,0,cur,rfl,hh,fun j u hu=> ?_⟩;rw[<-htk,akP] at hu;split at hu
 ·rw[ak3,<-Array.getElem?_toList];exact hu
 cases hu
theorem xu {w:World}{base n size c:Nat}{e:TypeId}{A:Option Addr}{xs:List Value}(h:w.ownsRow base e size (.slice A n c) n xs):n<=c:=by
 rcases h.2 with⟨h1,h2⟩|⟨g,cap,cur,h1,_,_,h3,_⟩
 ·omega
 simp only[alh] at h1;omega
def aiu (T:Nat->Prop)(W W':World):Prop:=∀b,T b->∀o,W.heap[b]? =some o->o.isCells=true->W'.heap[b]? =some o
theorem aiu.refl (T:Nat->Prop)(W:World):aiu T W W:=fun _ _ _ h _=>h
theorem aiu.trans {T:Nat->Prop}{A B C:World}(h:aiu T A B)(k:aiu T B C):aiu T A C:=fun b hb o ho hc=>k b hb o (h b hb o ho hc) hc
theorem aiu.put {T:Nat->Prop}(W:World)(l:Nat)(o o':Obj)(h:W.heap[l]? =some o)(hc:o.isCells=false):aiu T W (W.putObj l o'):=fun b _ q hq hqc=>by
 have hne:l≠b:=by
  rintro rfl;rw[h] at hq;injection hq with hq
  subst hq;simp[hc] at hqc
 exact(World.putObj_heap_other (Ne.symm hne)).trans hq
theorem aiu.below {T:Nat->Prop}{W W':World}(h:Below W.heap.size W W'):aiu T W W':=fun b _ o ho _=>(h.block b (akp.1 ho).1).trans ho
theorem aiu.cell {T:Nat->Prop}{W W':World}(h:aiu T W W'){p:Addr}(hp:T p.block){v:Value}(hc:W.cell? p=some v):W'.cell? p=some v:=by
 unfold World.cell? at hc ⊢;split at hc
 ·rename_i c e f heq;rw[h _ hp _ heq rfl];exact hc
 cases hc
theorem aiu.rd {T:Nat->Prop}{W W':World}(h:aiu T W W'){B:Nat}(hT:∀b,b<B->T b){A:Option Addr}{n size:Nat}{cs:List Value}(hr:Rd W B A n size cs):Rd W' B A n size cs:=
 ⟨hr.1,fun hn=>by
  obtain⟨b,o,e,hb,hc⟩:=hr.2 hn;exact⟨b,o,e,hb,fun j u hu=>h.cell (p:=⟨b,o+j,none⟩) (hT b hb) (hc j u hu)⟩⟩
def RowsIn (t:TypeId)(w:World)(hs:List Value)(rows:List (List P3)):Prop:=hs.length=rows.length/\∀(i:Nat) (r:List P3),rows[i]? =some r->∃A k c,hs[i]? =some (Value.slice A k c)/\RdT w t A k 3 (dA r)/\k<=c
theorem RowsIn.nil (t:TypeId)(w:World):RowsIn t w [] []:=⟨rfl,fun i r h=>by simp at h⟩
theorem RowsIn.kept {t:TypeId}{w w':World}{hs:List Value}{rows:List (List P3)}(h:RowsIn t w hs rows)(hk:∀A k r,RdT w t A k 3 (dA r)->RdT w' t A k 3 (dA r)):RowsIn t w' hs rows:=⟨h.1,fun i r hi=>by obtain⟨A,k,c,h1,h2,h3⟩:=h.2 i r hi;exact⟨A,k,c,h1,hk _ _ _ h2,h3⟩⟩
theorem RowsIn.snoc {t:TypeId}{w:World}{hs:List Value}{rows:List (List P3)}(h:RowsIn t w hs rows){A:Option Addr}{k c:Nat}{r:List P3}(hr:RdT w t A k 3 (dA r))(hkc:k<=c):RowsIn t w (hs++[.slice A k c]) (rows++[r]):=by
 refine⟨by simp[h.1],fun i r' hi=> ?_⟩;by_cases hlt:i<rows.length
 ·rw[akJ hlt] at hi;obtain⟨A',k',c',h1,h2⟩:=h.2 i r' hi;exact⟨A',k',c',by rw[akJ (by rw[h.1];exact hlt)];exact h1,h2⟩
 have hi2:i=rows.length:=by have:=(akn.1 hi).1;simp at this;omega
 subst hi2;simp at hi;subst hi;exact⟨A,k,c,by rw[<-h.1];simp,hr,hkc⟩
theorem RowsIn.below {t:TypeId}{w w':World}{hs:List Value}{rows:List (List P3)}(h:RowsIn t w hs rows)(hb:Below w.heap.size w w'):RowsIn t w' hs rows:=h.kept fun _ _ _ hr=>hr.below hb
end
section
structure Ins where
 op:Int
 a:Int
 deriving DecidableEq
structure Pt where
 x:Int
 y:Int
 on:Bool
 deriving DecidableEq
structure Part where
 ahU:Int
 x:Int
 y:Int
 deriving DecidableEq
structure aiK where
 kind:Int
 cls:Int
 x:Int
 y:Int
 deriving DecidableEq
structure Delta where
 region:Int
 point:Int
 x:Int
 y:Int
 deriving DecidableEq
structure ahR where
 name:B
 advance:Int
 mark:Bool
 points:List Pt
 ends:List Int
 parts:List Part
 anchors:List aiK
 deltas:List Delta
 hint:List Ins
 deriving DecidableEq
structure Chr where
 rune:Int
 ahU:Int
 deriving DecidableEq
structure Call where
 at':Int
 lookup:Int
 deriving DecidableEq
structure aii where
 back:List (List Int)
 in':List (List Int)
 ahead:List (List Int)
 out:List Int
 calls:List Call
 x:Int
 deriving DecidableEq
structure Lookup where
 kind:Int
 aik:Bool
 rules:List aii
 deriving DecidableEq
structure aip where
 name:B
 ahP:List Int
 deriving DecidableEq
structure aiM where
 name:B
 min':Int
 aiv:Int
 max':Int
 deriving DecidableEq
structure aiH where
 start:Int
 peak:Int
 stop:Int
 deriving DecidableEq
structure Region where
 ah4:List aiH
 deriving DecidableEq
structure Fnt where
 unit:Int
 ahO:List ahR
 chars:List Chr
 ahP:List Lookup
 features:List aip
 ahQ:List aiM
 regions:List Region
 funcs:List (List Ins)
 cvt:List Int
 deriving DecidableEq
def opNames:List B:=[[112,117,115,104],[112,111,112],[100,117,112],[115,119,97,112],[97,100,100],[115,117,98],[109,117,108],[100,105,118],[110,101,103],[97,98,115],[109,105,110],[109,97,120],[102,108,111,111,114],[99,101,105,108],[114,111,117,110,100],[108,116],[108,101],[101,113],[110,111,116],[97,110,100],[111,114],[112,114,111,106],[102,114,101,101],[109,111,100,101],[99,118,116],[115,101,116,99,118,116],[108,111,97,100],[115,97,118,101],[103,101,116],[111,114,103],[109,111,118,101],[115,101,116],[97,108,105,103,110],[105,110,116,101,114],[106,117,109,112],[106,117,109,112,122],[99,97,108,108,102],[108,111,111,112],[115,105,122,101]]
def anchorNames:List B:=[[98,97,115,101],[109,97,114,107],[101,110,116,114,121],[101,120,105,116]]
def az:List B:=[[115,105,110,103,108,101],[109,117,108,116,105,112,108,101],[108,105,103,97,116,117,114,101],[99,104,97,105,110],[114,101,118,101,114,115,101],[112,97,105,114],[99,117,114,115,105,118,101],[109,97,114,107,115]]
abbrev jK:B:=[117,110,105,116]
abbrev oW:B:=[97,120,105,115]
abbrev iM:B:=[114,101,103,105,111,110]
abbrev kF:B:=[99,118,116]
abbrev mX:B:=[102,117,110,99]
abbrev dM:B:=[103,108,121,112,104]
abbrev iH:B:=[109,97,114,107]
abbrev eX:B:=[99,111,110,116,111,117,114]
abbrev mY:B:=[112,97,114,116]
abbrev jd:B:=[97,110,99,104,111,114]
abbrev kC:B:=[100,101,108,116,97]
abbrev kP:B:=[104,105,110,116]
abbrev pq:B:=[99,104,97,114]
abbrev fH:B:=[108,111,111,107,117,112]
abbrev eP:B:=[105,103,110,111,114,101]
abbrev dF:B:=[114,117,108,101]
abbrev iw:B:=[102,101,97,116,117,114,101]
abbrev sH:B:=[99,108,97,115,115]
def pick (l:List B)(n:Int):B:=if n<1 then [63] else(l[(n - 1).toNat]?).getD [63]
def kL (n:Int):B:=pick opNames n
def ag (n:Int):B:=Lib.itoa n
def fC (more:List B):B:=more.flatMap (fun w=>32::w)
def au (first:B)(more:List B):B:=first++fC more++[10]
def dw (i:Ins):B:=kL i.op++if i.a=0 then [] else 58::ag i.a
def bV (gs:List ahR)(n:Int):B:=if n<0 then 63::ag n else match gs[n.toNat]? with|some g=>g.name|none=>63::ag n
def setW (gs:List ahR)(l:List Int):List B:=match l with|[n]=>[bV gs n]|_=>[91]::l.map (bV gs)++[[93]]
def bJ (gs:List ahR)(l:List (List Int)):List B:=l.flatMap (setW gs)
def outW (gs:List ahR)(kind:Int)(r:aii):List B:=
 if kind=1\/kind=2\/kind=3\/kind=5 then r.out.map (bV gs)
 else if kind=4 then r.calls.map (fun c=>ag c.at'++58::ag c.lookup)
 else if kind=6 then [ag r.x] else []
def yj (gs:List ahR)(kind:Int)(r:aii):List B:=bJ gs r.back++[47]::bJ gs r.in'++[47]::bJ gs r.ahead++[62]::outW gs kind r
def mP (gs:List ahR)(kind:Int)(r:aii):B:=au dF (yj gs kind r)
def dJ (gs:List ahR)(l:Lookup):B:=au fH (pick az l.kind::if l.aik then [eP] else [])++l.rules.flatMap (mP gs l.kind)
def jb (p:Pt):B:=ag p.x++44::ag p.y++if p.on then [] else [42]
def eQ (pts:List Pt):Nat->List Int->List (List Pt)
 |_,[]=>[]
 |fr,e::es=>if e<(fr:Int)\/(pts.length:Int)<=e then [] else((pts.take (e.toNat+1)).drop fr)::eQ pts (e.toNat+1) es
def dO (gs:List ahR)(g:ahR):B:=
 au dM (g.name::ag g.advance::if g.mark then [iH] else [])++
 (eQ g.points 0 g.ends).flatMap (fun c=>au eX (c.map jb))++
 g.parts.flatMap (fun p=>au mY [bV gs p.ahU,ag p.x,ag p.y])++
 g.anchors.flatMap (fun a=>au jd [pick anchorNames a.kind,ag a.cls,ag a.x,ag a.y])++
 g.deltas.flatMap (fun d=>au kC [ag d.region,ag d.point,ag d.x,ag d.y])++
 if g.hint.isEmpty then [] else au kP (g.hint.map dw)
def dX (a:aiM):B:=au oW [a.name,ag a.min',ag a.aiv,ag a.max']
def jM (t:aiH):List B:=[ag t.start,ag t.peak,ag t.stop]
def bY (r:Region):B:=au iM (r.ah4.flatMap jM)
def gG (p:List Ins):B:=au mX (p.map dw)
def jL (gs:List ahR)(c:Chr):B:=au pq [ag c.rune,bV gs c.ahU]
def iI (x:aip):B:=au iw (x.name::x.ahP.map ag)
def kw (f:Fnt):B:=
 au jK [ag f.unit]++
 f.ahQ.flatMap dX++
 f.regions.flatMap bY++
 (if f.cvt.isEmpty then [] else au kF (f.cvt.map ag))++
 f.funcs.flatMap gG++
 f.ahO.flatMap (dO f.ahO)++
 f.chars.flatMap (jL f.ahO)++
 f.ahP.flatMap (dJ f.ahO)++
 f.features.flatMap iI
end
section
open Go.RowKit
def gp (c:UInt8):Bool:=decide (48<=c.toNat) && decide (c.toNat<=57)
def Fv (c:UInt8):Bool:=(decide (65<=c.toNat) && decide (c.toNat<=90))||(decide (97<=c.toNat) && decide (c.toNat<=122))||c==95||c==46
theorem X6 (c d:UInt8):(c==d)=decide (c.toNat=d.toNat):=by rw[Bool.eq_iff_iff];simp[UInt8.toNat_inj]
theorem jE (s:List UInt8)(a b:Nat):(ByteArray.mk s.toArray).extract a b=⟨((s.take b).drop a).toArray⟩:=by apply ByteArray.ext;rw[ByteArray.data_extract];apply Array.ext';simp[List.extract_eq_take_drop,List.drop_take]
end
section
theorem take_snoc (c:B)(i:Nat)(b:UInt8)(h:c[i]? =some b):c.take (i+1)=c.take i++[b]:=by obtain⟨hk,hg⟩:=akn.1 h;rw[akB hk,hg]
theorem drop_cons (c:B)(i:Nat)(b:UInt8)(h:c[i]? =some b):c.drop i=b::c.drop (i+1):=by obtain⟨hk,hg⟩:=akn.1 h;rw[List.drop_eq_getElem_cons hk,hg]
theorem UD (c:B)(i:Nat)(b:UInt8)(h:c[i]? =some b)(hb:blank b=true):(run (c.take (i+1))).cur=[]:=by rw[take_snoc c i b h,rE,step,if_pos hb]
theorem FX {p:UInt8->Bool}(l:B)(k:Nat)(hk:k<=l.length)(h:∀j c,j<k->l[j]? =some c->p c=true)(he:∀c,l[k]? =some c->p c=false):l.takeWhile p=l.take k:=by
 induction l generalizing k with
 |nil=>simp
 |cons a r ih=>
  cases k with
  |zero=>have:=he a rfl;simp[this]
  |succ k=>have h0:=h 0 a (by omega) rfl;rw[List.takeWhile_cons,if_pos h0,List.take_succ_cons,ih k (by simpa using hk) (fun j c hj hc=>h (j+1) c (by omega) (by simpa using hc)) (fun c hc=>he c (by simpa using hc))]
theorem IE (s:B)(k:Nat)(hk:k<=s.length)(h:∀j c,j<k->s[j]? =some c->c≠35)(he:∀c,s[k]? =some c->c=35):code s=s.take k:=FX s k hk (fun j c hj hc=>by simpa using h j c hj hc) (fun c hc=>by simpa using he c hc)
end
section
open Go.RowKit
abbrev Bs:=Nat->Prop
abbrev Rel (α:Type):=World->Bs->List Value->α->Prop
def Same (S:Bs)(w w':World):Prop:=∀b,S b->w'.heap[b]? =w.heap[b]?
theorem Same.refl (S:Bs)(w:World):Same S w w:=fun _ _=>rfl
theorem Same.trans {S:Bs}{a b c:World}(h:Same S a b)(k:Same S b c):Same S a c:=fun x hx=>(k x hx).trans (h x hx)
theorem Same.sub {S S':Bs}{a b:World}(h:Same S' a b)(hs:∀x,S x->S' x):Same S a b:=fun x hx=>h x (hs x hx)
theorem Same.cell {S:Bs}{w w':World}(h:Same S w w'){b o:Nat}{v:Value}(hb:S b)(hc:w.cell? ⟨b,o,none⟩=some v):w'.cell? ⟨b,o,none⟩=some v:=(World.cell?_of_block (a:=⟨b,o,none⟩) (h b hb)).trans hc
structure Rel.Ok {α:Type}(R:Rel α):Prop where
 keep:∀ {w w':World} {S:Bs} {cs:List Value} {x:α},R w S cs x->Same S w w'->R w' S cs x
 mono:∀ {w:World} {S S':Bs} {cs:List Value} {x:α},R w S cs x->(∀b,S b->S' b)->R w S' cs x
def Fl {α:Type}(R:Rel α)(size:Nat)(w:World)(S:Bs)(cells:List Value)(xs:List α):Prop:=cells.length=xs.length*size/\∀k x,xs[k]? =some x->∃cs,R w S cs x/\cs.length=size/\∀j u,cs[j]? =some u->cells[k*size+j]? =some u
def Sl {α:Type}(R:Rel α)(size:Nat)(w:World)(S:Bs)(A:Option Addr)(xs:List α):Prop:=∃cells,Fl R size w S cells xs/\(0<xs.length->∃b o,A=some ⟨b,o,none⟩/\S b/\∀j u,cells[j]? =some u->w.cell? ⟨b,o+j,none⟩=some u)
def SlV {α:Type}(R:Rel α)(size:Nat):Rel (List α):=fun w S cs xs=>∃A c,cs=[.slice A xs.length c]/\Sl R size w S A xs
section
variable {α:Type} {R:Rel α} {size:Nat} {w w':World} {S S':Bs} {cells:List Value} {xs:List α} {A:Option Addr}
theorem Fl.keep (ok:R.Ok)(h:Fl R size w S cells xs)(hs:Same S w w'):Fl R size w' S cells xs:=⟨h.1,fun k x hx=>by obtain⟨cs,h1,h2,h3⟩:=h.2 k x hx;exact⟨cs,ok.keep h1 hs,h2,h3⟩⟩
theorem Fl.mono (ok:R.Ok)(h:Fl R size w S cells xs)(hs:∀b,S b->S' b):Fl R size w S' cells xs:=⟨h.1,fun k x hx=>by obtain⟨cs,h1,h2,h3⟩:=h.2 k x hx;exact⟨cs,ok.mono h1 hs,h2,h3⟩⟩
theorem Sl.keep (ok:R.Ok)(h:Sl R size w S A xs)(hs:Same S w w'):Sl R size w' S A xs:=by obtain⟨cells,h1,h2⟩:=h;refine⟨cells,h1.keep ok hs,fun h0=> ?_⟩;obtain⟨b,o,e,hb,hc⟩:=h2 h0;exact⟨b,o,e,hb,fun j u hu=>hs.cell hb (hc j u hu)⟩
theorem Sl.mono (ok:R.Ok)(h:Sl R size w S A xs)(hs:∀b,S b->S' b):Sl R size w S' A xs:=by obtain⟨cells,h1,h2⟩:=h;refine⟨cells,h1.mono ok hs,fun h0=> ?_⟩;obtain⟨b,o,e,hb,hc⟩:=h2 h0;exact⟨b,o,e,hs b hb,hc⟩
theorem SlV.ok (ok:R.Ok):(SlV R size).Ok:=⟨fun⟨A,c,e,h⟩ hs=>⟨A,c,e,h.keep ok hs⟩,fun⟨A,c,e,h⟩ hs=>⟨A,c,e,h.mono ok hs⟩⟩
theorem Sl.get (h:Sl R size w S A xs){k:Nat}(hk:k<xs.length):
  ∃b o x cs,A=some ⟨b,o,none⟩/\S b/\Hid (xs[k]? =some x)/\R w S cs x/\cs.length=size/\∀j u,cs[j]? =some u->w.cell? ⟨b,o+k*size+j,none⟩=some u:=by
 obtain⟨cells,h1,h2⟩:=h;obtain⟨b,o,e,hb,hc⟩:=h2 (by omega);have hx:xs[k]? =some xs[k]:=ako hk;obtain⟨cs,r1,r2,r3⟩:=h1.2 k _ hx;exact⟨b,o,_,cs,e,hb,hx,r1,r2,fun j u hu=>by rw[ak7];exact hc _ _ (r3 j u hu)⟩
theorem Fl.nil:Fl R size w S [] []:=⟨by simp,fun k x h=>by simp at h⟩
theorem Sl.nil:Sl R size w S A []:=⟨[],Fl.nil,fun h=>absurd h (by simp)⟩
theorem Fl.append {cells2:List Value}{ys:List α}(h:Fl R size w S cells xs)(k:Fl R size w S cells2 ys):Fl R size w S (cells++cells2) (xs++ys):=by
 refine⟨by simp[h.1,k.1,alg],fun i x hx=> ?_⟩;by_cases hi:i<xs.length
 ·rw[akJ hi] at hx;obtain⟨cs,r1,r2,r3⟩:=h.2 i x hx;refine⟨cs,r1,r2,fun j u hu=> ?_⟩;have hj:=r3 j u hu;rw[akJ (akn.1 hj).1];exact hj
 rw[akI (by omega)] at hx;obtain⟨cs,r1,r2,r3⟩:=k.2 _ x hx;refine⟨cs,r1,r2,fun j u hu=> ?_⟩;have hj:=r3 j u hu;have he:xs.length*size+(i - xs.length)*size=i*size:=by rw[<-alg];congr 1;omega
 rw[akI (by rw[h.1];omega),h.1,show i*size+j - xs.length*size=(i - xs.length)*size+j by omega];exact hj
theorem Fl.one {cs:List Value}{x:α}(h:R w S cs x)(hl:cs.length=size):Fl R size w S cs [x]:=by
 refine⟨by simp[hl],fun k y hy=> ?_⟩;cases k with
 |zero=>simp at hy;subst hy;exact⟨cs,h,hl,fun j u hu=>by simpa using hu⟩
 |succ k=>simp at hy
theorem Fl.snoc {cs:List Value}{x:α}(h:Fl R size w S cells xs)(k:R w S cs x)(hl:cs.length=size):Fl R size w S (cells++cs) (xs++[x]):=h.append (Fl.one k hl)
theorem Sl.ail {base n c:Nat}{e:TypeId}(h:w.ownsRow base e size (.slice A n c) n cells)(hf:Fl R size w S cells xs)(hS:∀b cur,Bk w b e cur->S b)(hsz:0<size):Sl R size w S A xs:=by
 refine⟨cells,hf,fun h0=> ?_⟩;rcases h.2 with⟨h1,h2⟩|⟨g,cap,cur,h1,hb,hh,hn,-⟩
 ·have h3:=h.1;have h4:=hf.1;subst h2;simp only[Nat.zero_mul,List.length_eq_zero_iff] at h3;subst h3;have:=Nat.mul_pos h0 hsz;rw[<-h4] at this;simp at this
 simp only[alh,true_and] at h1;obtain⟨rfl,rfl⟩:=h1;refine⟨g,0,rfl,hS g cur hh,fun j u hu=> ?_⟩;have:=h.cells (g:=g) rfl j u hu
 rwa [addr_add] at this
end
end
section
open Go.RowKit
def mF (d:B):Nat:=d.foldl (fun n c=>10*n+(c.toNat - 48)) 0
def rM (d:B):Bool:=d.all gp && decide (1<=d.length/\d.length<=9)
def gu (s:B):B:=match s with|45::r=>r|s=>s
def signed (s:B):Bool:=match s with|45::_=>true|_=>false
def aA (s:B):Int:=if rM (gu s) then(if signed s then -(mF (gu s):Int) else(mF (gu s):Int)) else 0
def uf (s:B):Bool:=rM (gu s)
theorem vO (d:B)(c:UInt8):mF (d++[c])=10*mF d+(c.toNat - 48):=by simp[mF]
theorem MG (k:Nat):10 ^ (k+1)=10*10 ^ k:=by rw[Nat.pow_succ,Nat.mul_comm]
theorem OT (d:B)(h:∀c∈d,gp c=true):mF d<10 ^ d.length:=by
 suffices h:∀k,k<=d.length->mF (d.take k)<10 ^ k by simpa using h d.length (nr _)
 intro k;induction k with
 |zero=>intro _;simp[mF]
 |succ k ih=>
  intro hk;have e:d.take (k+1)=d.take k++[d[k]]:=by rw[akB (by omega)]
  have h1:=ih (by omega);have h2:=h d[k] (List.getElem_mem _);simp[gp] at h2;rw[e,vO,MG];omega
theorem Pe (d:B)(c:UInt8)(h:c∈d)(hc:gp c=false):rM d=false:=by rw[rM,Bool.and_eq_false_iff];left;rw[List.all_eq_false];exact⟨c,h,by simp[hc]⟩
theorem XL (d:B)(h:d.length<1\/9<d.length):rM d=false:=by rw[rM,Bool.and_eq_false_iff];right;simp;omega
theorem La (d:B)(h:∀c∈d,gp c=true)(h1:1<=d.length)(h2:d.length<=9):rM d=true:=by rw[rM,akK,akW];exact⟨h,by simp;omega⟩
theorem uB (s:B):(∃r,s=45::r/\gu s=r/\signed s=true)\/(gu s=s/\signed s=false/\∀r,s≠45::r):=by
 unfold gu signed;split
 ·exact .inl ⟨_,rfl,rfl,rfl⟩
 rename_i h;exact .inr ⟨rfl,rfl,h⟩
theorem lN (c:UInt8):gp c=true ↔ 48<=c.toNat/\c.toNat<=57:=by simp[gp]
def nameAt (i:Nat)(c:UInt8):Bool:=Fv c||(decide (i≠0) && (gp c||c==45))
def nameB (s:B):Bool:=decide (0<s.length/\s.length<=16) && (List.range s.length).all (fun i=>nameAt i (s[i]?.getD 0))
theorem byte_at (s:B)(k:Nat)(c:UInt8)(h:s[k]? =some c)(hk:k<(ByteArray.mk s.toArray).size):(ByteArray.mk s.toArray)[k]'hk=c:=by obtain⟨h1,h2⟩:=akn.1 h;rw[<-h2];rfl
theorem DX (s:B)(k:Nat)(c:UInt8)(h:s[k]? =some c)(hn:nameAt k c=false):nameB s=false:=by rw[nameB,Bool.and_eq_false_iff];right;obtain⟨h1,h2⟩:=akn.1 h;rw[List.all_eq_false];exact⟨k,by simpa using h1,by simp[h,hn]⟩
theorem zu (s:B)(h:∀j c,j<s.length->s[j]? =some c->nameAt j c=true):nameB s=decide (0<s.length/\s.length<=16):=by
 rw[nameB];have:((List.range s.length).all fun i=>nameAt i (s[i]?.getD 0))=true:=by
  rw[akW];intro i hi;have hi':i<s.length:=by simpa using hi
  rw[ako hi'];exact h i _ hi' (ako hi')
 rw[this,Bool.and_true]
theorem Nj {k:Nat}{c:UInt8}(h:128<=c.toNat):nameAt k c=false:=by simp[nameAt,Fv,gp,X6];omega
theorem SX (s:B)(h:s.length<1\/16<s.length):nameB s=false:=by rw[nameB,Bool.and_eq_false_iff];left;simp;omega
theorem nZ (k:Nat)(c:UInt8):nameAt k c=true ↔ (65<=c.toNat/\c.toNat<=90)\/(97<=c.toNat/\c.toNat<=122)\/c.toNat=95\/c.toNat=46\/(k≠0/\((48<=c.toNat/\c.toNat<=57)\/c.toNat=45)):=by simp[nameAt,Fv,gp,X6];omega
theorem ZR (s:B)(fr i:Nat)(h:s[i]? =some 10)(hf:fr<=i)(hn:∀c∈(s.take i).drop fr,c≠10):gW (s.drop fr)=(s.take i).drop fr::gW (s.drop (i+1)):=by
 have hi:=(akn.1 h).1;have e:s.drop fr=(s.take i).drop fr++10::s.drop (i+1):=by
  rw[<-drop_cons s i 10 h]
  conv=>lhs;rw[<-akS i s]
  rw[List.drop_append_of_le_length (by rw[akH];omega)]
 rw[e,OW _ _ hn]
theorem wY (done:List B)(p:B):bF 1 (done++[p])=bF 1 done++if one p=[] then [] else [num (done.length+1) (one p)]:=by rw[Jb];simp[bF];rw[Nat.add_comm]
theorem yX (n:Nat)(done:List B):(bF n done).length<=done.length:=by
 induction done generalizing n with
 |nil=>simp[bF]
 |cons p ps ih=>have:=ih (n+1);rw[bF,la];split<;>simp<;>omega
theorem BI (n:Nat)(l:List (Nat×B)):(num n l).length=l.length:=by simp[num]
def uq (t tr:TypeId)(w w':World)(rows:List (List P3))(v:Value):Prop:=∃A c hs,v= .slice A rows.length c/\RdT w' tr A rows.length 1 hs/\RowsIn t w' hs rows/\Below w.heap.size w w'
theorem zJ (l:B):(run l).all.length<=l.length:=by
 suffices h:∀k,k<=l.length->(run (l.take k)).all.length<=k by simpa using h l.length (nr _)
 intro k;induction k with
 |zero=>intro _;simp[run,st0,St.all,St.pend]
 |succ k ih=>
  intro hk;have e:l.take (k+1)=l.take k++[l[k]]:=by rw[akB (by omega)]
  have:=ih (by omega);rw[e,rE];unfold step;split
  ·simp[St.all,St.pend] at this ⊢;omega
  simp only[St.all,St.pend,List.append_eq_nil_iff,List.cons_ne_nil,and_false,if_false,la,aF,ln] at this ⊢;omega
theorem O9 (l:B):(one l).length<=l.length:=by unfold one code;exact nt (zJ _) (List.takeWhile_sublist _).length_le
theorem RowsIn.grown {t tr:TypeId}{w w':World}{hs:List Value}{rows:List (List P3)}{base n size:Nat}{v:Value}{xs:List Value}(h:RowsIn t w hs rows)(ho:w.ownsRow base tr size v n xs)(hg:w.grownBy w' v.ownBlock)(hne:t≠tr):RowsIn t w' hs rows:=
 h.kept fun _ _ _ hr=>hr.grown hg fun g e=>by
  obtain⟨cur,hk⟩:=oO ho g e;exact⟨cur,tr,hk,hne⟩
theorem RdT.alloc {w:World}{t:TypeId}{A:Option Addr}{n size:Nat}{cs:List Value}(h:RdT w t A n size cs)(o:Obj):RdT (w.alloc o) t A n size cs:=h.below ((akl _ _).alloc (nr _) _)
theorem RowsIn.alloc {t:TypeId}{w:World}{hs:List Value}{rows:List (List P3)}(h:RowsIn t w hs rows)(o:Obj):RowsIn t (w.alloc o) hs rows:=h.kept fun _ _ _ hr=>hr.alloc o
theorem aeb (s:ByteArray)(c:Int)(w:World):(callFunc 206 #[.string s,.int .u8 c]).run Tryz.prog w= .ok (.value (.int .i64 (Lib.indexByte s.data.toList c.toNat.toUInt8))) w:=by rw[run_callFunc_extern Tryz.func206 (by kernel_rfl) (by kernel_rfl) (by kernel_rfl) (e:=Extern.BytealgIndexByte.indexByte) (by kernel_rfl),Lib.run_indexByteString];rfl
theorem Hw (w:World)(s:B):Calls Tryz.prog 162 #[.string ⟨s.toArray⟩,.string ⟨#[10]⟩] w fun e w'=>e= .returned (.int .i64 (Lib.indexByte s 10))/\w=w':=by
 have ix:=aeb;go_enter Tryz.func162,Tryz.ntmps162
 go_wp2
 ·have h:([10]==s)=true:=by assumption
  have hs:[10]=s:=by simpa using h
  go_ret
  refine⟨?_,rfl⟩;rw[<-hs];rfl
 go_ret
 exact⟨rfl,rfl⟩
end
section
def Ff (gs:List ahR)(i:Nat):List Int:=match gs[i]? with|some g=>g.parts.map (·.ahU)|none=>[]
def yI (gs:List ahR)(i p:Nat):Prop:=(p:Int)∈Ff gs i
def aa8 (gs:List ahR):Nat->Nat->Nat->Prop
 |0,i,q=>yI gs i q
 |n+1,i,q=>∃p,yI gs i p/\aa8 gs n p q
def Way (gs:List ahR)(i q:Nat):Prop:=∃n,aa8 gs n i q
theorem Way.one {gs:List ahR}{i p:Nat}(h:yI gs i p):Way gs i p:=⟨0,h⟩
theorem Way.more {gs:List ahR}{i p q:Nat}(h:yI gs i p)(k:Way gs p q):Way gs i q:=by obtain⟨n,k⟩:=k;exact⟨n+1,p,h,k⟩
def Shut (gs:List ahR)(t:Nat)(M:Nat->Prop):Prop:=∀j,M j->∀p,yI gs j p->p≠t/\M p
theorem Shut.way {gs:List ahR}{t:Nat}{M:Nat->Prop}(h:Shut gs t M){j q:Nat}(hj:M j)(w:Way gs j q):q≠t/\M q:=by
 obtain⟨n,w⟩:=w;induction n generalizing j with
 |zero=>exact h _ hj _ w
 |succ n ih=>obtain⟨p,k,w⟩:=w;exact ih (h _ hj _ k).2 w
def Acy (gs:List ahR):Prop:=∀i,i<gs.length->¬Way gs i i
theorem ZE {gs:List ahR}{i:Nat}{M:Nat->Prop}(hs:Shut gs i M)(hk:∀p,yI gs i p->p≠i/\M p):¬Way gs i i:=fun w=>by
 obtain⟨n,w⟩:=w;cases n with
 |zero=>exact(hk _ w).1 rfl
 |succ n=>obtain⟨p,h,k⟩:=w;exact(hs.way (hk _ h).2 ⟨n,k⟩).1 rfl
theorem filter_lt {l:List Nat}{P Q:Nat->Bool}(h:∀x,P x=true->Q x=true){x:Nat}(hx:x∈l)(hq:Q x=true)(hp:P x=false):(l.filter P).length<(l.filter Q).length:=by
 induction l with
 |nil=>simp at hx
 |cons a r ih=>
  have hle:∀m:List Nat,(m.filter P).length<=(m.filter Q).length:=by
   intro m;induction m with
   |nil=>simp
   |cons b m ih=>
    rw[List.filter_cons,List.filter_cons];by_cases hb:P b=true
    ·rw[if_pos hb,if_pos (h b hb),aF,aF];omega
    rw[if_neg hb];split
    ·rw[aF];omega
    exact ih
  rw[List.filter_cons,List.filter_cons];rw[akx] at hx;rcases hx with rfl|hx
  ·rw[if_neg (by simp[hp]),if_pos hq,aF];have:=hle r;omega
  have:=ih hx;by_cases hb:P a=true
  ·rw[if_pos hb,if_pos (h a hb),aF,aF];omega
  rw[if_neg hb];split
  ·rw[aF];omega
  exact this
theorem Acy.rank {gs:List ahR}(ha:Acy gs):∃r:Nat->Nat,∀i p,p<gs.length->yI gs i p->r p<r i:=by
 refine⟨fun i=>((List.range gs.length).filter (fun j=> @decide (Way gs i j) (Classical.propDecidable _))).length,fun i p hp h=> ?_⟩;exact filter_lt (x:=p) (fun x hx=>by
  simp only[ali] at hx ⊢;exact .more h hx) (List.mem_range.2 hp) (by simpa using Way.one h) (by simpa using ha p hp)
def tC (m:List Bool):Nat:=(m.filter (fun b=> !b)).length
theorem WT {m:List Bool}{p:Nat}(h:m[p]? =some false):tC (m.set p true)+1=tC m:=by
 induction m generalizing p with
 |nil=>simp at h
 |cons a r ih=>
  cases p with
  |zero=>simp only[akw,akM] at h;subst h;simp[tC]
  |succ p=>
   rw[akz] at h;have:=ih h;unfold tC at this ⊢;rw[List.set_cons_succ,List.filter_cons,List.filter_cons];split
   ·rw[aF,aF];omega
   exact this
def mV (m:List Bool)(j:Nat):Prop:=m[j]? =some true
structure Found (gs:List ahR)(i t:Nat)(m m':List Bool)(b:Bool):Prop where
 len:m'.length=m.length
 stay:∀j,mV m j->mV m' j
 own:b=false->∀p,yI gs i p->p≠t/\mV m' p
 new:b=false->∀j,mV m' j->mV m j\/∀p,yI gs j p->p≠t/\mV m' p
structure aiW (gs:List ahR)(ks:List Int)(t:Nat)(m m':List Bool):Prop where
 len:m'.length=m.length
 stay:∀j,mV m j->mV m' j
 own:∀p:Nat,(p:Int)∈ks->p≠t/\mV m' p
 new:∀j,mV m' j->mV m j\/∀p,yI gs j p->p≠t/\mV m' p
theorem aiW.start (gs:List ahR)(t:Nat)(m:List Bool):aiW gs [] t m m:=⟨rfl,fun _ h=>h,fun _ h=>by simp at h,fun _ h=> .inl h⟩
theorem aiW.old {gs:List ahR}{ks:List Int}{t:Nat}{m m':List Bool}(h:aiW gs ks t m m'){p:Nat}(hp:p≠t)(hm:mV m' p):aiW gs (ks++[(p:Int)]) t m m':=
 ⟨h.len,h.stay,fun q hq=>by
  rw[akq,akm] at hq;rcases hq with hq|hq
  ·exact h.own q hq
  have:q=p:=by omega
  subst this;exact⟨hp,hm⟩,h.new⟩
theorem aiW.search {gs:List ahR}{ks:List Int}{t:Nat}{m m1 m2:List Bool}(h:aiW gs ks t m m1){p:Nat}(hp:p≠t)(hl:p<m1.length)(f:Found gs p t (m1.set p true) m2 false):aiW gs (ks++[(p:Int)]) t m m2:=by
 have h1:∀j,mV m1 j->mV m2 j:=fun j hj=>f.stay j (by
  unfold mV at hj ⊢;rw[ald];split
  ·rename_i e;subst e;simp[hl]
  exact hj)
 have h2:mV m2 p:=f.stay p (by unfold mV;rw[List.getElem?_set_self hl]);refine⟨by rw[f.len,alc,h.len],fun j hj=>h1 j (h.stay j hj),fun q hq=> ?_,fun j hj=> ?_⟩
 ·rw[akq,akm] at hq;rcases hq with hq|hq
  ·exact⟨(h.own q hq).1,h1 q (h.own q hq).2⟩
  have:q=p:=by omega
  subst this;exact⟨hp,h2⟩
 rcases f.new rfl j hj with hj|hj
 ·unfold mV at hj;rw[ald] at hj;split at hj
  ·rename_i e;subst e;exact .inr (f.own rfl)
  rcases h.new j hj with hj|hj
  ·exact .inl hj
  exact .inr fun q hq=>⟨(hj q hq).1,h1 q (hj q hq).2⟩
 exact .inr hj
theorem Found.none {gs:List ahR}{i:Nat}{m m':List Bool}(f:Found gs i i m m' false)(h:∀j,¬mV m j):¬Way gs i i:=ZE (M:=mV m') (fun j hj=>(f.new rfl j hj).resolve_left (h j)) (f.own rfl)
end
end Go.Proofs.YtkijckccfookeaaGreatDoor
