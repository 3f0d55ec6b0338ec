/- Lemmas. -/
import Derived.Test.YtkijckccfookeaaDoorAb
import Derived.Shelf.Strconv.Itoa3
import Derived.Shelf.Strings.Shaped
import Derived.Shelf.Unicode.DecodeSlow
import Derived.Test.YtkijckccfookeaaDoorProg
import Derived.RangeFuncNested
import Derived.RangeFuncBound
import Derived.BigQuiet
set_option linter.unusedVariables false
set_option linter.unusedSimpArgs false
set_option maxRecDepth 100000
set_option maxHeartbeats 32000000
namespace Go.Proofs
open Go.Shelf
def Tryd.aaE:Go.Shelf.Ren:=⟨fun|171=>44|243=>66|246=>91|283=>103|284=>104|285=>105|286=>106|129=>113|317=>112|318=>114|319=>115|320=>116|337=>119|338=>120|n=>n,fun|3=>3|9=>9|2=>2|4=>4|171=>177|0=>0|53=>178|37=>92|5=>5|173=>181|212=>192|51=>193|20=>20|213=>194|46=>186|232=>199|233=>200|n=>n,fun|17=>7|18=>8|19=>9|n=>n⟩
theorem Tryd.laysM171:Go.Proofs.LaysM.n171 Tryd.prog Tryd.aaE:= {
 mixed:=by kernel_rfl
 f129:=Tryd.func113.trans (congrArg some (by kernel_rfl))
 f171:=Tryd.func44.trans (congrArg some (by kernel_rfl))
 f243:=Tryd.func66.trans (congrArg some (by kernel_rfl))
 f246:=Tryd.func91.trans (congrArg some (by kernel_rfl))
 f283:=Tryd.func103.trans (congrArg some (by kernel_rfl))
 f284:=Tryd.func104.trans (congrArg some (by kernel_rfl))
 f285:=Tryd.func105.trans (congrArg some (by kernel_rfl))
 f286:=Tryd.func106.trans (congrArg some (by kernel_rfl))
 f317:=Tryd.func112.trans (congrArg some (by kernel_rfl))
 f318:=Tryd.func114.trans (congrArg some (by kernel_rfl))
 f319:=Tryd.func115.trans (congrArg some (by kernel_rfl))
 f320:=Tryd.func116.trans (congrArg some (by kernel_rfl))
 f337:=Tryd.func119.trans (congrArg some (by kernel_rfl))
 f338:=Tryd.func120.trans (congrArg some (by kernel_rfl))
 t0:=Tryd.underlying0
 a0:=Tryd.isAgg0
 z0:=Tryd.sizeOf0
 v0:=Tryd.zeroValue0
 t2:=Tryd.underlying2
 a2:=Tryd.isAgg2
 z2:=Tryd.sizeOf2
 v2:=Tryd.zeroValue2
 t3:=Tryd.underlying3
 a3:=Tryd.isAgg3
 z3:=Tryd.sizeOf3
 v3:=Tryd.zeroValue3
 t4:=Tryd.underlying4
 a4:=Tryd.isAgg4
 z4:=Tryd.sizeOf4
 v4:=Tryd.zeroValue4
 t5:=Tryd.underlying5
 a5:=Tryd.isAgg5
 z5:=Tryd.sizeOf5
 v5:=Tryd.zeroValue5
 t9:=Tryd.underlying9
 a9:=Tryd.isAgg9
 z9:=Tryd.sizeOf9
 v9:=Tryd.zeroValue9
 t20:=Tryd.underlying20
 a20:=Tryd.isAgg20
 z20:=Tryd.sizeOf20
 v20:=Tryd.zeroValue20
 t37:=Tryd.underlying92
 a37:=Tryd.isAgg92
 z37:=Tryd.sizeOf92
 v37:=Tryd.zeroValue92
 t46:=Tryd.underlying186
 a46:=Tryd.isAgg186
 z46:=Tryd.sizeOf186
 v46:=Tryd.zeroValue186
 t51:=Tryd.underlying193
 a51:=Tryd.isAgg193
 z51:=Tryd.sizeOf193
 v51:=Tryd.zeroValue193
 t53:=Tryd.underlying178
 a53:=Tryd.isAgg178
 z53:=Tryd.sizeOf178
 v53:=Tryd.zeroValue178
 t171:=Tryd.underlying177
 a171:=Tryd.isAgg177
 z171:=Tryd.sizeOf177
 v171:=Tryd.zeroValue177
 t173:=Tryd.underlying181
 a173:=Tryd.isAgg181
 z173:=Tryd.sizeOf181
 v173:=Tryd.zeroValue181
 t212:=Tryd.underlying192
 a212:=Tryd.isAgg192
 z212:=Tryd.sizeOf192
 v212:=Tryd.zeroValue192
 t213:=Tryd.underlying194
 a213:=Tryd.isAgg194
 z213:=Tryd.sizeOf194
 t232:=Tryd.underlying199
 a232:=Tryd.isAgg199
 z232:=Tryd.sizeOf199
 v232:=Tryd.zeroValue199
 t233:=Tryd.underlying200
 a233:=Tryd.isAgg200
 z233:=Tryd.sizeOf200
 v233:=Tryd.zeroValue200
 g17:=by kernel_rfl
 g18:=by kernel_rfl
 g19:=by kernel_rfl
 i0:=by kernel_rfl
 i2:=by kernel_rfl
 i3:=by kernel_rfl
 i4:=by kernel_rfl
 i5:=by kernel_rfl
 i9:=by kernel_rfl
 i20:=by kernel_rfl
 i37:=by kernel_rfl
 i46:=by kernel_rfl
 i51:=by kernel_rfl
 i53:=by kernel_rfl
 i171:=by kernel_rfl
 i173:=by kernel_rfl
 i212:=by kernel_rfl
 i232:=by kernel_rfl
 i233:=by kernel_rfl
 m17:=by kernel_rfl
 m18:=by kernel_rfl
 m19:=by kernel_rfl}
open Go.RowKit Go.Sort Go.Lib in
theorem Tryd.strconv_Itoa (n:Int)(h0: -9223372036854775808≤n)(h1:n≤9223372036854775807)(w:World)(htab:Lib.TabIs Tryd.prog w "internal/strconv.uint64pow10" .u64 Lib.pow10Tab):
  Calls Tryd.prog 44 #[.int .i64 n] w fun e w'=>e= .returned (.string ⟨(Lib.itoa n).toArray⟩)/\∃k os,w'=grow (w.drewN k) os:=Any.strconv_Itoa Tryd.laysM171 n h0 h1 w htab
end Go.Proofs
namespace Go.Proofs.YtkijckccfookeaaDoor
section
open Go.RowKit Go.Shelf
def NT {α:Type}(J:List α->World->Prop)(Bx:List α->Prop)(R:World->World->Prop)(l:Nat)(xs:List α)(W:World)(e:Ending)(W':World):Prop:=
 (e= .returned (.bool true)/\J xs W'/\R W W'/\KeepsOthers W W')\/
 (e= .returned (.bool false)/\Bx xs/\W.heap.size<=W'.heap.size/\∀(j:Nat) (o:Obj),j≠l->W.heap[j]? =some o->o.isCells=false->W'.heap[j]? =some o)
def Et {α:Type}(P:Program)(cs gf:Nat)(lb:Array Value)(encs:α->Array Value)(R:World->World->Prop)(S:List α->World->Prop)(Sp:List α->Prop)(N:Nat)(w:World):Prop:=
 ∀(l n:Nat) (J:List α->World->Prop) (Bx:List α->Prop) (W:World),8<=n->l<W.heap.size->Below w.heap.size w W->OwnFrom W.heap.size J->(∀pre W1 v,J pre W1->J pre (W1.setCell ⟨cs,0,none⟩ v))->
  (∀pre x W1,J pre W1->pre.length<N->YieldAt Fence.wide 0 P l (encs x) W1 (NT J Bx R l (pre++[x]) W1))->J [] W->
  CallsIn Fence.wide n P gf (#[.func (.yield l) #[] #[]]++lb) W fun e W'=>(∃v,e= .returned v)/\((∃xs,S xs W'/\J xs W')\/(∃pre,Sp pre/\Bx pre))
def LV {α:Type}(I:List α->World->Prop)(Bx:List α->Prop)(R:World->World->Prop)(xs:List α)(W:World):Exit->Act->World->Prop
 | .normal,_,W'=>I xs W'/\R W W'/\KeepsOthers W W'
 | .ret,_,W'=>Bx xs/\KeepsOthers W W'
 |_,_,_=>False
theorem tY {P:Program}{α:Type}{g:Operand}{ps:Array Tmp}{assign body:Code}{Q:Exit->Act->World->Prop}{a:Act}{w:World}{n cs gf:Nat}{lb:Array Value}
  (hn:9<=n) (hg:a.eval g= .func (.func gf) #[] lb) (eg:∀args w,(callFunc gf args).run P w= .ok (.enter gf args) w)
  {encs:α->Array Value} (hps:∀x,(encs x).size=ps.size) {R:World->World->Prop} {S:List α->World->Prop} {Sp Bx:List α->Prop} {N:Nat} (hit:Et P cs gf lb encs R S Sp N w) (hno:∀pre,Sp pre->Bx pre->False)
  (hRt:∀ {A B C:World},R A B->R B C->R A C) (hRp:∀(W:World) (l:Nat) (o o':Obj),W.heap[l]? =some o->o.isCells=false->R W (W.putObj l o'))
  (hSp:∀(xs:List α) (W:World) (l:Nat) (o o':Obj),S xs W->W.heap[l]? =some o->o.isCells=false->S xs (W.putObj l o'))
  (I:List α->World->Prop) (hI:OwnFrom w.heap.size I) (hIc:∀pre W v,I pre W->I pre (W.setCell ⟨cs,0,none⟩ v)) (h0:I [] w) (a1:α->Act)
  (hassign:∀(l:Nat) (x:α) (W:World) (K:Act->World->Prop),K (a1 x) W->assign.wpIn (Fence.wide.inRound l) 0 P (Exit.then K (fun _ _ _=>False)) {tmps:=(ps.zip (encs x)).foldl (fun t (p,v)=>t.setIfInBounds p v) a.tmps,defers:=[]} W)
  (hbody:∀(l:Nat) (pre:List α) (x:α) (W:World),I pre W->pre.length<N->body.wpIn (Fence.wide.inRound l) 0 P (LV I Bx R (pre++[x]) W) (a1 x) W)
  (hdone:∀(D:Nat) (xs:List α) (W:World),w.heap.size<=D->S xs W->I xs W->W.heap[D]? =some (.deferred (some []))->Q .normal {a with defers:= {target:= .collected D,args:= #[]} ::a.defers} W):
  (Code.rangeFunc g ps assign body).wpIn Fence.wide n P Q a w:=by
 refine wpIn_rangeFunc ?_;intro fn hfn;obtain⟨rc,hrc⟩:∃rc:LoopState->Loop,rc=fun st=> {state:=st,pending:=none,fn,tmps:=a.tmps,params:=ps,assign,body,defers:=w.heap.size} :=⟨_,rfl⟩
 obtain⟨V,hV⟩:∃V,(w.alloc (.deferred (some []))).alloc (.loop (rc .ready))=V:=⟨_,rfl⟩
 have Xy:V.heap.size=w.heap.size+2:=by rw[<-hV];simp
 have QA:V.heap[w.heap.size+1]? =some (.loop (rc .ready)):=by have h:=World.alloc_heap_new (w.alloc (.deferred (some []))) (.loop (rc .ready));rw[World.size_alloc] at h;rw[<-hV];exact h
 have MX:V.heap[w.heap.size]? =some (.deferred (some [])):=by rw[<-hV];exact(Below.heap_alloc _ _ _ (by simp)).trans (World.alloc_heap_new w _)
 have PQ:Below w.heap.size w V:=by rw[<-hV];exact((aa0 _ w).alloc (ag _) _).alloc (by simp) _
 have NP:I [] V:=by rw[<-hV];exact hI.alloc _ (hI.alloc _ h0)
 refine⟨w.heap.size+1,[{target:= .collected w.heap.size,args:= #[]}],V,{target:= .fn (.func gf) lb,args:= #[.func (.yield (w.heap.size+1)) #[] #[]]},V,gf,#[.func (.yield (w.heap.size+1)) #[] #[]]++lb,V,?_,?_,?_,?_,fun _=>by omega,?_⟩
 ·rw[<-hV,hrc];exact run_enterLoop_outer _ _ _ _ _
 ·simp only[resolve,hg];simp[go_sem]
 ·intro f' _;trivial
 ·simp[invoke,go_sem,eg]
 have PG:OwnFrom V.heap.size (fun pre W=>I pre W/\W.heap[w.heap.size+1]? =some (.loop (rc .ready))/\W.heap[w.heap.size]? =some (.deferred (some []))):=by
  intro s A B row hs hgr hr;have hlow:∀k,k<w.heap.size+2->∀o,A.heap[k]? =some o->B.heap[k]? =some o:=fun k hk o ho=>(hgr.block k (aa4.1 ho).1 (fun e=>by have:=(hr k e.symm).1;omega)).trans ho
  exact⟨hI s A B row hs.1 hgr (fun r e=>⟨by have:=(hr r e).1;omega,(hr r e).2⟩),hlow _ (by omega) _ hs.2.1,hlow _ (by omega) _ hs.2.2⟩
 refine(hit (w.heap.size+1) (n - 1) _ Bx V (by omega) (by omega) PQ PG (fun pre W1 v h=>⟨hIc pre W1 v h.1,(KeepsOthers.setCell W1 ⟨cs,0,none⟩ v).same _ _ h.2.1 rfl,(KeepsOthers.setCell W1 ⟨cs,0,none⟩ v).same _ _ h.2.2 rfl⟩) ?_ ⟨NP,QA,MX⟩).mono ?_
 ·rintro pre x W ⟨hi,hl,hd⟩ QL;have hlt:=(aa4.1 hl).1;have hy:=run_yield (P:=P) (args:=encs x) hl (by rw[hrc];exact hps x);rw[hrc] at hy;refine⟨fn,_,assign,body,hy,roundIn_of_wpIn hfn (hassign _ x W _ ⟨_,run_beginRound hl (by rw[hrc]),?_⟩)⟩;have hl2:(W.putObj (w.heap.size+1) (.loop {rc .ready with state:= .busy})).heap[w.heap.size+1]? =some (.loop {rc .ready with state:= .busy}):=World.putObj_heap_same hlt;have hd2:(W.putObj (w.heap.size+1) (.loop {rc .ready with state:= .busy})).heap[w.heap.size]? =some (.deferred (some [])):=(World.putObj_heap_other (by omega)).trans hd;have hr2:R W (W.putObj (w.heap.size+1) (.loop {rc .ready with state:= .busy})):=hRp _ _ _ _ hl rfl;refine wpIn_mono (hbody _ pre x _ (hI.putObj _ hi (by omega) hl rfl) QL) ?_;rintro e a3 W3 hp;cases e with
  |normal=>
   obtain⟨hi3,hr3,hk3⟩:=hp;have hl3:=hk3.same _ _ hl2 rfl;have hd3:=hk3.same _ _ hd2 rfl;have hrun:=run_endRound (P:=P) none hl3;have hsame:({{rc .ready with state:= .busy} with state:=if(none:Option Code).isNone then LoopState.ready else .done,pending:=none} :Loop)=rc .ready:=by rw[hrc];rfl
   rw[hsame] at hrun;have hl4:(W3.putObj (w.heap.size+1) (.loop (rc .ready))).heap[w.heap.size+1]? =some (.loop (rc .ready)):=World.putObj_heap_same (aa4.1 hl3).1;refine⟨_,_,hrun,.inl ⟨rfl,⟨hI.putObj _ hi3 (by omega) hl3 rfl,hl4,(World.putObj_heap_other (by omega)).trans hd3⟩,hRt (hRt hr2 hr3) (hRp _ _ _ _ hl3 rfl),?_,fun j o hj ho=> ?_⟩⟩
   ·have h1:=hk3.size;simp at h1 ⊢;exact h1
   by_cases hjl:j=w.heap.size+1
   ·subst hjl;rw[hl] at hj;cases hj;exact hl4
   exact(World.putObj_heap_other hjl).trans (hk3.same j o ((World.putObj_heap_other hjl).trans hj) ho)
  |ret=>
   obtain⟨hb3,hk3⟩:=hp;have hl3:=hk3.same _ _ hl2 rfl;refine⟨_,_,run_endRound (P:=P) (some .ret) hl3,.inr ⟨rfl,hb3,?_,fun j o hj ho hc=> ?_⟩⟩
   ·have h1:=hk3.size;simp at h1 ⊢;exact h1
   exact(World.putObj_heap_other hj).trans (hk3.same j o ((World.putObj_heap_other hj).trans ho) hc)
  |exit id=>exact hp.elim
  |goto t=>exact hp.elim
  |panic ch=>exact hp.elim
  |outgrown=>exact hp.elim
 rintro e W2 ⟨⟨v,rfl⟩,(⟨xs,hS,hi,hl,hd⟩|⟨pre,UU,hBx⟩)⟩
 rotate_left
 ·exact(hno pre UU hBx).elim
 have hrun:=run_endLoop (P:=P) hl (by rw[hrc];simp);have hpn:(rc .ready).pending=none:=by rw[hrc]
 rw[hpn] at hrun;refine⟨none,_,hrun,?_⟩;exact hdone _ xs _ (ag _) (hSp _ _ _ _ _ hS hl rfl) (hI.putObj _ hi (by omega) hl rfl) ((World.putObj_heap_other (by omega)).trans hd)
end
section
open Go.RowKit
structure WIn (S:World->Prop) where
 w:World
 ok:S w
end
end Go.Proofs.YtkijckccfookeaaDoor
