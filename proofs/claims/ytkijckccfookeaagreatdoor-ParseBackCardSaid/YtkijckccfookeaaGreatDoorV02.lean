/- Lemmas. -/
import Derived.Test.YtkijckccfookeaaGreatDoorAb
import Derived.Test.YtkijckccfookeaaGreatDoorProg
import Derived.BigQuiet
import Derived.RangeFuncNested
import Derived.RangeFuncBound
import Derived.Shelf.Abstract
set_option linter.unusedVariables false
set_option linter.unusedSimpArgs false
set_option maxRecDepth 100000
set_option maxHeartbeats 32000000
namespace Go.Proofs.YtkijckccfookeaaGreatDoor
section
open Go.RowKit
structure WIn (S:World->Prop) where
 w:World
 ok:S w
theorem aW {P:Program}{id:Nat}{Q:Exit->Act->World->Prop}{a:Act}{w:World}{l:List Oper}(S:World->Prop)(hm:P.follows .mixedOrders=true)(hB:Region.lexB .any l.toArray=true)(hS:S {w with drawn:=w.drawn+1})
  (h:wpQuiet P l.toArray (fun w'=>∃x:WIn S,w'=x.w) (fun a'=>∀w',(∃x:WIn S,w'=x.w)->Q .normal a' w') l a):(Code.region id l.toArray true).wp P Q a w:=
 wp_region_quiet (C:=fun w'=>∃x:WIn S,w'=x.w) hm hB ⟨⟨_,hS⟩,rfl⟩ h
end
section
open Go.RowKit Go.Shelf
def afY {α:Type}(J:List α->World->Prop)(Bx:List α->Prop)(R:World->World->Prop)(l:Nat)(xs:List α)(W:World)(e:Ending)(W':World):Prop:=
 (e= .returned (.bool true)/\J xs W'/\R W W'/\KeepsOthers W W')\/
 (e= .returned (.bool false)/\Bx xs/\W.heap.size<=W'.heap.size/\∀(j:Nat) (o:Obj),j≠l->W.heap[j]? =some o->o.isCells=false->W'.heap[j]? =some o)
def ZI {α:Type}(P:Program)(cs gf:Nat)(lb:Array Value)(encs:α->Array Value)(R:World->World->Prop)(S:List α->World->Prop)(Sp:List α->Prop)(N:Nat)(w:World):Prop:=
 ∀(l n:Nat) (J:List α->World->Prop) (Bx:List α->Prop) (W:World),8<=n->l<W.heap.size->Below w.heap.size w W->OwnFrom W.heap.size J->(∀pre W1 v,J pre W1->J pre (W1.setCell ⟨cs,0,none⟩ v))->
  (∀pre x W1,J pre W1->pre.length<N->YieldAt Fence.wide 0 P l (encs x) W1 (afY J Bx R l (pre++[x]) W1))->J [] W->
  CallsIn Fence.wide n P gf (#[.func (.yield l) #[] #[]]++lb) W fun e W'=>(∃v,e= .returned v)/\((∃xs,S xs W'/\J xs W')\/(∃pre,Sp pre/\Bx pre))
def ad9 {α:Type}(I:List α->World->Prop)(Bx:List α->Prop)(R:World->World->Prop)(xs:List α)(W:World):Exit->Act->World->Prop
 | .normal,_,W'=>I xs W'/\R W W'/\KeepsOthers W W'
 | .ret,_,W'=>Bx xs/\KeepsOthers W W'
 |_,_,_=>False
theorem Ha {P:Program}{α:Type}{g:Operand}{ps:Array Tmp}{assign body:Code}{Q:Exit->Act->World->Prop}{a:Act}{w:World}{n cs gf:Nat}{lb:Array Value}
  (hn:9<=n) (hg:a.eval g= .func (.func gf) #[] lb) (eg:∀args w,(callFunc gf args).run P w= .ok (.enter gf args) w)
  {encs:α->Array Value} (hps:∀x,(encs x).size=ps.size) {R:World->World->Prop} {S:List α->World->Prop} {Sp Bx:List α->Prop} {N:Nat} (hit:ZI P cs gf lb encs R S Sp N w) (hno:∀pre,Sp pre->Bx pre->False)
  (hRt:∀ {A B C:World},R A B->R B C->R A C) (hRp:∀(W:World) (l:Nat) (o o':Obj),W.heap[l]? =some o->o.isCells=false->R W (W.putObj l o'))
  (hSp:∀(xs:List α) (W:World) (l:Nat) (o o':Obj),S xs W->W.heap[l]? =some o->o.isCells=false->S xs (W.putObj l o'))
  (I:List α->World->Prop) (hI:OwnFrom w.heap.size I) (hIc:∀pre W v,I pre W->I pre (W.setCell ⟨cs,0,none⟩ v)) (h0:I [] w) (a1:α->Act)
  (hassign:∀(l:Nat) (x:α) (W:World) (K:Act->World->Prop),K (a1 x) W->assign.wpIn (Fence.wide.inRound l) 0 P (Exit.then K (fun _ _ _=>False)) {tmps:=(ps.zip (encs x)).foldl (fun t (p,v)=>t.setIfInBounds p v) a.tmps,defers:=[]} W)
  (hbody:∀(l:Nat) (pre:List α) (x:α) (W:World),I pre W->pre.length<N->body.wpIn (Fence.wide.inRound l) 0 P (ad9 I Bx R (pre++[x]) W) (a1 x) W)
  (hdone:∀(D:Nat) (xs:List α) (W:World),w.heap.size<=D->S xs W->I xs W->W.heap[D]? =some (.deferred (some []))->Q .normal {a with defers:= {target:= .collected D,args:= #[]} ::a.defers} W):
  (Code.rangeFunc g ps assign body).wpIn Fence.wide n P Q a w:=by
 refine wpIn_rangeFunc ?_;intro fn hfn;obtain⟨rc,hrc⟩:∃rc:LoopState->Loop,rc=fun st=> {state:=st,pending:=none,fn,tmps:=a.tmps,params:=ps,assign,body,defers:=w.heap.size} :=⟨_,rfl⟩
 obtain⟨V,hV⟩:∃V,(w.alloc (.deferred (some []))).alloc (.loop (rc .ready))=V:=⟨_,rfl⟩
 have hVs:V.heap.size=w.heap.size+2:=by rw[<-hV];simp
 have hVl:V.heap[w.heap.size+1]? =some (.loop (rc .ready)):=by have h:=World.alloc_heap_new (w.alloc (.deferred (some []))) (.loop (rc .ready));rw[World.size_alloc] at h;rw[<-hV];exact h
 have hVd:V.heap[w.heap.size]? =some (.deferred (some [])):=by rw[<-hV];exact(Below.heap_alloc _ _ _ (by simp)).trans (World.alloc_heap_new w _)
 have hVb:Below w.heap.size w V:=by rw[<-hV];exact((aqk _ w).alloc (ag _) _).alloc (by simp) _
 have hVi:I [] V:=by rw[<-hV];exact hI.alloc _ (hI.alloc _ h0)
 refine⟨w.heap.size+1,[{target:= .collected w.heap.size,args:= #[]}],V,{target:= .fn (.func gf) lb,args:= #[.func (.yield (w.heap.size+1)) #[] #[]]},V,gf,#[.func (.yield (w.heap.size+1)) #[] #[]]++lb,V,?_,?_,?_,?_,fun _=>by omega,?_⟩
 ·rw[<-hV,hrc];exact run_enterLoop_outer _ _ _ _ _
 ·simp only[resolve,hg];simp[go_sem]
 ·intro f' _;trivial
 ·simp[invoke,go_sem,eg]
 have hJo:OwnFrom V.heap.size (fun pre W=>I pre W/\W.heap[w.heap.size+1]? =some (.loop (rc .ready))/\W.heap[w.heap.size]? =some (.deferred (some []))):=by
  intro s A B row hs hgr hr;have hlow:∀k,k<w.heap.size+2->∀o,A.heap[k]? =some o->B.heap[k]? =some o:=fun k hk o ho=>(hgr.block k (aqo.1 ho).1 (fun e=>by have:=(hr k e.symm).1;omega)).trans ho
  exact⟨hI s A B row hs.1 hgr (fun r e=>⟨by have:=(hr r e).1;omega,(hr r e).2⟩),hlow _ (by omega) _ hs.2.1,hlow _ (by omega) _ hs.2.2⟩
 refine(hit (w.heap.size+1) (n - 1) _ Bx V (by omega) (by omega) hVb hJo (fun pre W1 v h=>⟨hIc pre W1 v h.1,(KeepsOthers.setCell W1 ⟨cs,0,none⟩ v).same _ _ h.2.1 rfl,(KeepsOthers.setCell W1 ⟨cs,0,none⟩ v).same _ _ h.2.2 rfl⟩) ?_ ⟨hVi,hVl,hVd⟩).mono ?_
 ·rintro pre x W ⟨hi,hl,hd⟩ ag3;have hlt:=(aqo.1 hl).1;have hy:=run_yield (P:=P) (args:=encs x) hl (by rw[hrc];exact hps x);rw[hrc] at hy;refine⟨fn,_,assign,body,hy,roundIn_of_wpIn hfn (hassign _ x W _ ⟨_,run_beginRound hl (by rw[hrc]),?_⟩)⟩;have hl2:(W.putObj (w.heap.size+1) (.loop {rc .ready with state:= .busy})).heap[w.heap.size+1]? =some (.loop {rc .ready with state:= .busy}):=World.putObj_heap_same hlt;have hd2:(W.putObj (w.heap.size+1) (.loop {rc .ready with state:= .busy})).heap[w.heap.size]? =some (.deferred (some [])):=(World.putObj_heap_other (by omega)).trans hd;have hr2:R W (W.putObj (w.heap.size+1) (.loop {rc .ready with state:= .busy})):=hRp _ _ _ _ hl rfl;refine wpIn_mono (hbody _ pre x _ (hI.putObj _ hi (by omega) hl rfl) ag3) ?_;rintro e a3 W3 hp;cases e with
  |normal=>
   obtain⟨hi3,hr3,hk3⟩:=hp;have hl3:=hk3.same _ _ hl2 rfl;have hd3:=hk3.same _ _ hd2 rfl;have hrun:=run_endRound (P:=P) none hl3;have hsame:({{rc .ready with state:= .busy} with state:=if(none:Option Code).isNone then LoopState.ready else .done,pending:=none} :Loop)=rc .ready:=by rw[hrc];rfl
   rw[hsame] at hrun;have hl4:(W3.putObj (w.heap.size+1) (.loop (rc .ready))).heap[w.heap.size+1]? =some (.loop (rc .ready)):=World.putObj_heap_same (aqo.1 hl3).1;refine⟨_,_,hrun,.inl ⟨rfl,⟨hI.putObj _ hi3 (by omega) hl3 rfl,hl4,(World.putObj_heap_other (by omega)).trans hd3⟩,hRt (hRt hr2 hr3) (hRp _ _ _ _ hl3 rfl),?_,fun j o hj ho=> ?_⟩⟩
   ·have h1:=hk3.size;simp at h1 ⊢;exact h1
   by_cases hjl:j=w.heap.size+1
   ·subst hjl;rw[hl] at hj;cases hj;exact hl4
   exact(World.putObj_heap_other hjl).trans (hk3.same j o ((World.putObj_heap_other hjl).trans hj) ho)
  |ret=>
   obtain⟨hb3,hk3⟩:=hp;have hl3:=hk3.same _ _ hl2 rfl;refine⟨_,_,run_endRound (P:=P) (some .ret) hl3,.inr ⟨rfl,hb3,?_,fun j o hj ho hc=> ?_⟩⟩
   ·have h1:=hk3.size;simp at h1 ⊢;exact h1
   exact(World.putObj_heap_other hj).trans (hk3.same j o ((World.putObj_heap_other hj).trans ho) hc)
  |exit id=>exact hp.elim
  |goto t=>exact hp.elim
  |panic ch=>exact hp.elim
  |outgrown=>exact hp.elim
 rintro e W2 ⟨⟨v,rfl⟩,(⟨xs,hS,hi,hl,hd⟩|⟨pre,aiV,hBx⟩)⟩
 rotate_left
 ·exact(hno pre aiV hBx).elim
 have hrun:=run_endLoop (P:=P) hl (by rw[hrc];simp);have hpn:(rc .ready).pending=none:=by rw[hrc]
 rw[hpn] at hrun;refine⟨none,_,hrun,?_⟩;exact hdone _ xs _ (ag _) (hSp _ _ _ _ _ hS hl rfl) (hI.putObj _ hi (by omega) hl rfl) ((World.putObj_heap_other (by omega)).trans hd)
end
end Go.Proofs.YtkijckccfookeaaGreatDoor
