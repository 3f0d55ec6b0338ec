/- Lemmas. -/
import Derived.Test.YtkijckccfookeaaGreatDoorV21
set_option linter.unusedVariables false
set_option linter.unusedSimpArgs false
set_option maxRecDepth 100000
set_option maxHeartbeats 32000000
namespace Go.Proofs.YtkijckccfookeaaGreatDoor
section
open Go.RowKit Go.Shelf
attribute [local go_sem] Oper.semAt_some
theorem RoundIn.wide {P:Program}{l m k l2:Nat}{f:FuncId}{tmps:Array Value}{assign body:Code}{w:World}{R:Ending->World->Prop}(h:RoundIn Fence.wide m P l f tmps assign body w R):RoundIn (Fence.wide.inRound l2) k P l f tmps assign body w R:=⟨h.1,fun c cs _=>h.2 c cs (fun _ hd=>by cases hd)⟩
def Going {α:Type}(J:List α->World->Prop)(R:World->World->Prop)(xs:List α)(W:World)(e:Ending)(W':World):Prop:=e= .returned (.bool true)/\J xs W'/\R W W'/\KeepsOthers W W'
def Gives {α:Type}(P:Program)(gf:Nat)(lb:Array Value)(encs:α->Array Value)(V:List α->α->World->Prop)(R:World->World->Prop)(S:List α->Prop)(d:Nat)(w:World):Prop:=
 ∀(l n:Nat) (J:List α->World->Prop) (W:World),d<=n->l<W.heap.size->Below w.heap.size w W->OwnFrom W.heap.size J->
  (∀pre x W1,J pre W1->V pre x W1->YieldAt Fence.wide 0 P l (encs x) W1 (Going J R (pre++[x]) W1))->J [] W->
  CallsIn Fence.wide n P gf (#[.func (.yield l) #[] #[]]++lb) W fun e W'=>(∃v,e= .returned v)/\∃xs,S xs/\J xs W'
def aa2 {α:Type}(I:List α->World->Prop)(R:World->World->Prop)(xs:List α)(W:World):Exit->Act->World->Prop
 | .normal,_,W'=>I xs W'/\R W W'/\KeepsOthers W W'
 |_,_,_=>False
theorem vP {P:Program}{α:Type}{g:Operand}{ps:Array Tmp}{assign body:Code}{Q:Exit->Act->World->Prop}{a:Act}{w:World}{n gf:Nat}{lb:Array Value}
  {d:Nat} (hn:d+1<=n) (hg:a.eval g= .func (.func gf) #[] lb) (eg:∀args w,(callFunc gf args).run P w= .ok (.enter gf args) w)
  {encs:α->Array Value} (hps:∀x,(encs x).size=ps.size) {V:List α->α->World->Prop} {R:World->World->Prop} {S:List α->Prop} (hit:Gives P gf lb encs V R S d w)
  (hRt:∀ {A B C:World},R A B->R B C->R A C) (hRp:∀(W:World) (l:Nat) (o o':Obj),W.heap[l]? =some o->o.isCells=false->R W (W.putObj l o'))
  (hVp:∀(xs:List α) (x:α) (W:World) (l:Nat) (o o':Obj),V xs x W->W.heap[l]? =some o->o.isCells=false->V xs x (W.putObj l o'))
  (I:List α->World->Prop) (hI:OwnFrom w.heap.size I) (h0:I [] w) (a1:α->Act)
  (hassign:∀(l:Nat) (x:α) (W:World) (K:Act->World->Prop),K (a1 x) W->assign.wpIn (Fence.wide.inRound l) 0 P (Exit.then K (fun _ _ _=>False)) {tmps:=(ps.zip (encs x)).foldl (fun t (p,v)=>t.setIfInBounds p v) a.tmps,defers:=[]} W)
  (hbody:∀(l:Nat) (pre:List α) (x:α) (W:World),I pre W->V pre x W->body.wpIn (Fence.wide.inRound l) 0 P (aa2 I R (pre++[x]) W) (a1 x) W)
  (hdone:∀(D:Nat) (xs:List α) (W:World),w.heap.size<=D->S xs->I xs W->W.heap[D]? =some (.deferred (some []))->Q .normal {a with defers:= {target:= .collected D,args:= #[]} ::a.defers} W):
  (Code.rangeFunc g ps assign body).wpIn Fence.wide n P Q a w:=by
 refine wpIn_rangeFunc ?_;intro fn hfn;obtain⟨rc,hrc⟩:∃rc:LoopState->Loop,rc=fun st=> {state:=st,pending:=none,fn,tmps:=a.tmps,params:=ps,assign,body,defers:=w.heap.size} :=⟨_,rfl⟩
 obtain⟨V0,hV⟩:∃V0,(w.alloc (.deferred (some []))).alloc (.loop (rc .ready))=V0:=⟨_,rfl⟩
 have hVs:V0.heap.size=w.heap.size+2:=by rw[<-hV];simp
 have hVl:V0.heap[w.heap.size+1]? =some (.loop (rc .ready)):=by have h:=World.alloc_heap_new (w.alloc (.deferred (some []))) (.loop (rc .ready));rw[World.size_alloc] at h;rw[<-hV];exact h
 have hVd:V0.heap[w.heap.size]? =some (.deferred (some [])):=by rw[<-hV];exact(Below.heap_alloc _ _ _ (by simp)).trans (World.alloc_heap_new w _)
 have hVb:Below w.heap.size w V0:=by rw[<-hV];exact((akl _ w).alloc (nr _) _).alloc (by simp) _
 have hVi:I [] V0:=by rw[<-hV];exact hI.alloc _ (hI.alloc _ h0)
 refine⟨w.heap.size+1,[{target:= .collected w.heap.size,args:= #[]}],V0,{target:= .fn (.func gf) lb,args:= #[.func (.yield (w.heap.size+1)) #[] #[]]},V0,gf,#[.func (.yield (w.heap.size+1)) #[] #[]]++lb,V0,?_,?_,?_,?_,fun _=>by omega,?_⟩
 ·rw[<-hV,hrc];exact run_enterLoop_outer _ _ _ _ _
 ·simp only[resolve,hg];simp[go_sem]
 ·intro f' _;trivial
 ·simp[invoke,go_sem,eg]
 have hJo:OwnFrom V0.heap.size (fun pre W=>I pre W/\W.heap[w.heap.size+1]? =some (.loop (rc .ready))/\W.heap[w.heap.size]? =some (.deferred (some []))):=by
  intro s A B row hs hgr hr;have hlow:∀k,k<w.heap.size+2->∀o,A.heap[k]? =some o->B.heap[k]? =some o:=fun k hk o ho=>(hgr.block k (akp.1 ho).1 (fun e=>by have:=(hr k e.symm).1;omega)).trans ho
  exact⟨hI s A B row hs.1 hgr (fun r e=>⟨by have:=(hr r e).1;omega,(hr r e).2⟩),hlow _ (by omega) _ hs.2.1,hlow _ (by omega) _ hs.2.2⟩
 refine(hit (w.heap.size+1) (n - 1) _ V0 (by omega) (by omega) hVb hJo ?_ ⟨hVi,hVl,hVd⟩).mono ?_
 ·rintro pre x W ⟨hi,hl,hd⟩ hvx;have hlt:=(akp.1 hl).1;have hy:=run_yield (P:=P) (args:=encs x) hl (by rw[hrc];exact hps x);rw[hrc] at hy;refine⟨fn,_,assign,body,hy,roundIn_of_wpIn hfn (hassign _ x W _ ⟨_,run_beginRound hl (by rw[hrc]),?_⟩)⟩;have hl2:(W.putObj (w.heap.size+1) (.loop {rc .ready with state:= .busy})).heap[w.heap.size+1]? =some (.loop {rc .ready with state:= .busy}):=World.putObj_heap_same hlt;have hd2:(W.putObj (w.heap.size+1) (.loop {rc .ready with state:= .busy})).heap[w.heap.size]? =some (.deferred (some [])):=(World.putObj_heap_other (by omega)).trans hd;have hr2:R W (W.putObj (w.heap.size+1) (.loop {rc .ready with state:= .busy})):=hRp _ _ _ _ hl rfl;refine wpIn_mono (hbody _ pre x _ (hI.putObj _ hi (by omega) hl rfl) (hVp _ _ _ _ _ _ hvx hl rfl)) ?_;rintro e a3 W3 hp;cases e with
  |normal=>
   obtain⟨hi3,hr3,hk3⟩:=hp;have hl3:=hk3.same _ _ hl2 rfl;have hd3:=hk3.same _ _ hd2 rfl;have hrun:=run_endRound (P:=P) none hl3;have hsame:({{rc .ready with state:= .busy} with state:=if(none:Option Code).isNone then LoopState.ready else .done,pending:=none} :Loop)=rc .ready:=by rw[hrc];rfl
   rw[hsame] at hrun;have hl4:(W3.putObj (w.heap.size+1) (.loop (rc .ready))).heap[w.heap.size+1]? =some (.loop (rc .ready)):=World.putObj_heap_same (akp.1 hl3).1;refine⟨_,_,hrun,rfl,⟨hI.putObj _ hi3 (by omega) hl3 rfl,hl4,(World.putObj_heap_other (by omega)).trans hd3⟩,hRt (hRt hr2 hr3) (hRp _ _ _ _ hl3 rfl),?_,fun j o hj ho=> ?_⟩
   ·have h1:=hk3.size;simp at h1 ⊢;exact h1
   by_cases hjl:j=w.heap.size+1
   ·subst hjl;rw[hl] at hj;cases hj;exact hl4
   exact(World.putObj_heap_other hjl).trans (hk3.same j o ((World.putObj_heap_other hjl).trans hj) ho)
  |ret=>exact hp.elim
  |exit id=>exact hp.elim
  |goto t=>exact hp.elim
  |panic ch=>exact hp.elim
  |outgrown=>exact hp.elim
 rintro e W2 ⟨⟨v,rfl⟩,xs,hS,hi,hl,hd⟩;have hrun:=run_endLoop (P:=P) hl (by rw[hrc];simp);have hpn:(rc .ready).pending=none:=by rw[hrc]
 rw[hpn] at hrun;refine⟨none,_,hrun,?_⟩;exact hdone _ xs _ (nr _) hS (hI.putObj _ hi (by omega) hl rfl) ((World.putObj_heap_other (by omega)).trans hd)
structure KC (w w':World):Prop where
 same:∀(b:Nat) (cs:Array Value) (t:TypeId) (fz:Nat×Nat),w.heap[b]? =some (.cells cs t fz)->t≠5->t≠130->w'.heap[b]? =some (.cells cs t fz)
 size:w.heap.size<=w'.heap.size
theorem KC.trans {a b c:World}(h:KC a b)(k:KC b c):KC a c:=⟨fun x cs t fz hx h1 h2=>k.same x cs t fz (h.same x cs t fz hx h1 h2) h1 h2,nt h.size k.size⟩
theorem KC.put (W:World)(l:Nat)(o o':Obj)(h:W.heap[l]? =some o)(hc:o.isCells=false):KC W (W.putObj l o'):=by
 refine⟨fun b cs t fz hb _ _=> ?_,by simp⟩;have hne:b≠l:=by rintro rfl;rw[h] at hb;cases hb;cases hc
 exact(World.putObj_heap_other hne).trans hb
theorem KP.kc {w w':World}(h:KP w w'):KC w w':=⟨fun b cs t fz hb h1 h2=>h.same b _ hb ⟨h1,h2⟩,h.size⟩
theorem KP.others {w w':World}(h:KP w w'):KeepsOthers w w':=⟨h.size,fun k o hk hc=>h.same k o hk (by cases o<;>first|trivial|cases hc)⟩
theorem KC.bk {w w':World}(h:KC w w'){g:Nat}{t:TypeId}{cs:Array Value}(hb:Bk w g t cs)(h1:t≠5)(h2:t≠130):Bk w' g t cs:=h.same g cs t (0,0) hb h1 h2
abbrev Bo:=Nat×Nat×Nat×Nat
def Rl (x:Bo):Array Value:= #[.int .i64 (x.1:Int),.slice (some ⟨x.2.2.2,x.2.1*3,none⟩) (x.2.2.1+1 - x.2.1) (x.2.2.1+1 - x.2.1)]
def EZ (g:Nat)(l:List (Nat×Nat×Nat)):List Bo:=l.map (fun p=>(p.1,p.2.1,p.2.2,g))
def VC (n:Nat)(cs:List Value)(es:List Int)(pre:List Bo)(x:Bo)(W:World):Prop:=pre++[x]<+:EZ x.2.2.2 (nX n 0 0 es)/\x.2.1<=x.2.2.1/\x.2.2.1<n/\RdT W 139 (some ⟨x.2.2.2,0,none⟩) n 3 cs
def SC (n:Nat)(es:List Int)(xs:List Bo):Prop:=∃g,xs=EZ g (nX n 0 0 es)
theorem VC.putObj (n:Nat)(cs:List Value)(es:List Int)(xs:List Bo)(x:Bo)(W:World)(l:Nat)(o o':Obj)(h:VC n cs es xs x W)(hl:W.heap[l]? =some o)(hc:o.isCells=false):VC n cs es xs x (W.putObj l o'):=⟨h.1,h.2.1,h.2.2.1,h.2.2.2.other (grownBy_putObj' W l o') (fun r e=>by cases e;exact⟨o,hl,hc⟩)⟩
theorem RoundIn.any {P:Program}{l m k:Nat}{f:FuncId}{tmps:Array Value}{assign body:Code}{w:World}{R:Ending->World->Prop}(h:RoundIn Fence.wide m P l f tmps assign body w R):RoundIn Fence.wide k P l f tmps assign body w R:=⟨h.1,fun c cs _=>h.2 c cs (fun _ hd=>by cases hd)⟩
abbrev Hg:=Nat×Nat×Nat
def P9 (b o:Nat)(x:Hg):Array Value:= #[.int .i64 (x.1:Int),.slice (some ⟨b,o+x.2.1*3,none⟩) (x.2.2+1 - x.2.1) (x.2.2+1 - x.2.1)]
def VP (len:Nat)(es:List Int)(pre:List Hg)(x:Hg)(_:World):Prop:=pre++[x]<+:nX len 0 0 es/\x.2.1<=x.2.2/\x.2.2<len
def SP (len:Nat)(es:List Int)(xs:List Hg):Prop:=xs=nX len 0 0 es
theorem KC.rdT {w w':World}(h:KC w w'){t:TypeId}{A:Option Addr}{n size:Nat}{cs:List Value}(hr:RdT w t A n size cs)(h1:t≠5)(h2:t≠130):RdT w' t A n size cs:=
 ⟨hr.1,fun hn=>by
  obtain⟨b,o,cur,e,hb,hc⟩:=hr.2 hn;exact⟨b,o,cur,e,h.bk hb h1 h2,hc⟩⟩
theorem KC.refl (w:World):KC w w:=(KP.refl w).kc
theorem KC.below {w w':World}(h:Below w.heap.size w w'):KC w w':=(KP.below h).kc
theorem Mc (w:World)(be br b o len cap m d:Nat)(A E:Option Addr)(es:List Int)(hbe:Bk w be 22 #[.slice E m d])(hbr:Bk w br 51 #[.slice A len cap])(hE:RdT w 3 E m 1 (aW es))
  (hAb:0<len->A=some ⟨b,o,none⟩) (hcap:len<=cap) (hlen:cap<=9223372036854775807) (hm:m<=9223372036854775807):
  Gives Tryz.prog 177 #[.pointer (some ⟨be,0,none⟩),.pointer (some ⟨br,0,none⟩)] (P9 b o) (VP len es) KC (SP len es) 8 w:=by
 intro l n J W hn _ hW _ hY h0;have hcW:=KC.below hW;have aax:=hcW.bk hbe (by decide) (by decide);have afl:=hcW.bk hbr (by decide) (by decide);have hE1:=hcW.rdT hE (by decide) (by decide);have hel:=hE1.rd.ajr;have Hel:=hd0 hel;clear hel hbe hbr hE hW hcW;have HY:=hd0 hY;clear hY;have c0:W.cell? ⟨be,0,none⟩=some (.slice E m d):=aax.cell 0;refine callsIn_of_wp Tryz.func177 rfl trivial ?_ rfl;simp only[Tryz.ntmps177,List.size_toArray,aF,ln,Nat.reduceAdd,Nat.reduceSub,Array.replicate_succ,Array.replicate_zero,List.push_toArray,List.append_toArray,akX,akC]
 gi_wp2
 gi_loopw [4,9] (fun f i wr=>∃(k q:Nat) (pre:List Hg),k<=m/\q<=len/\i= .int .i64 k/\f= .int .i64 q/\J pre wr/\KC W wr/\Hid (pre++nX len k q (es.drop k)=nX len 0 0 es))
  (fun _ i _=>m - (intOf i).toNat)
 case atStart=>exact⟨0,0,[],by omega,by omega,rfl,rfl,h0,KC.refl _,rfl⟩
 case round=>
  obtain⟨k,q,pre,hk,hq,rfl,rfl,hJs,hnx,hpre⟩:=hrel;have agi:wr.cell? ⟨be,0,none⟩=some (.slice E m d):=(hnx.bk aax (by decide) (by decide)).cell 0;have af0:wr.cell? ⟨br,0,none⟩=some (.slice A len cap):=(hnx.bk afl (by decide) (by decide)).cell 0;clear c0;by_cases hlt:k<m
  ·obtain⟨be0,bo,e,rfl,-,he,hce⟩:=(hnx.rdT hE1 (by decide) (by decide)).rd.atI hlt;have hdrop:Hid (es.drop k=e::es.drop (k+1)):=by obtain⟨h1,h2⟩:=akn.1 he.out;have:=List.drop_eq_getElem_cons h1;rw[h2] at this;exact this
   by_cases hlow:e<(q:Int)
   ·have hd:decide (e<(q:Int))=true:=by simp[hlow]
    gi_wp2
    refine bodyPost_ret (results_none rfl _ _ _) rfl ?_;refine⟨⟨_,rfl⟩,pre,?_,hJs⟩;have:=hpre.out;rw[hdrop.out,nX,if_neg (by omega)] at this;show _=_;simpa using this
   have hd:decide (e<(q:Int))=false:=by simp;omega
   by_cases hhi:(len:Int)<=e
   ·gi_wp2
    refine bodyPost_ret (results_none rfl _ _ _) rfl ?_;refine⟨⟨_,rfl⟩,pre,?_,hJs⟩;have:=hpre.out;rw[hdrop.out,nX,if_neg (by omega)] at this;show _=_;simpa using this
   obtain⟨en,rfl⟩:∃en:Nat,e=en:=⟨e.toNat,by omega⟩
   have hqe:q<=en:=by omega
   have hel:en<len:=by omega
   obtain rfl:=hAb (by omega);have hnext:Hid ((pre++[((k,q,en):Hg)])++nX len (k+1) (en+1) (es.drop (k+1))=nX len 0 0 es):=by have:=hpre.out;rw[hdrop.out,nX,if_pos (by omega)] at this;show _=_;simpa using this
   obtain⟨fn,tmps,assign,body,hy,hR⟩:=HY.out pre (k,q,en) wr hJs ⟨⟨_,hnext.out⟩,hqe,hel⟩;simp only[P9] at hy;clear hlow hhi
   gi_wp2
   refine⟨fun _=>nt (by decide) hn,?_⟩;refine(RoundIn.any hR).mono ?_;rintro e W3 ⟨rfl,hJ3,hk3,-⟩
   gi_wp2
   go_roundw
   case rel=>exact⟨k+1,en+1,_,by omega,by omega,by go_num,by go_num,hJ3,hnx.trans hk3,hnext⟩
   case measure=>simp[intOf];omega
  gi_wp2
  go_end0
  refine⟨⟨_,rfl⟩,pre,?_,hJs⟩;have:=hpre.out;rw[akU (by have:=Hel.out;omega)] at this;show _=_;simpa [nX] using this
end
section
open Go.RowKit
theorem UG (w:World)(f:Fnt)(A1 A2 A3 A4 A5 A6 A7 A8:Option Addr)(c1 c2 c3 c4 c5 c6 c7 c8:Nat)(hF:FIn ⟨A1,c1,A2,c2,A3,c3,A4,c4,A5,c5,A6,c6,A7,c7,A8,c8⟩ f w)(hng:Big f.ahO.length)(hnl:Big f.ahP.length)(hnf:Big f.features.length)(hL:∀l∈f.ahP,ajH l)(hX:∀x∈f.features,ajK x):Calls Tryz.prog 67 #[.agg #[.int .i64 f.unit,.slice A1 f.ahO.length c1,.slice A2 f.chars.length c2,.slice A3 f.ahP.length c3,.slice A4 f.features.length c4,.slice A5 f.ahQ.length c5,.slice A6 f.regions.length c6,.slice A7 f.funcs.length c7,.slice A8 f.cvt.length c8]] w (Ed w ((f.ahP.length<=40/\∀l∈f.ahP,ai6 f.ahO.length f.ahP.length l)/\f.features.length<=20/\∀x∈f.features,ai8 f.ahP.length x)):=by
 obtain⟨P,HP⟩:∃P:Prop,Hid (P=((f.ahP.length<=40/\∀l∈f.ahP,ai6 f.ahO.length f.ahP.length l)/\f.features.length<=20/\∀x∈f.features,ai8 f.ahP.length x)):=⟨_,rfl⟩
 rw[<-HP.out];have adZ:=hnl;have aeJ:=hnf;unfold Big at adZ aeJ;obtain⟨Wf,hWf,hbf,bW⟩:=aQ w 32 #[.int .i64 f.unit,.slice A1 f.ahO.length c1,.slice A2 f.chars.length c2,.slice A3 f.ahP.length c3,.slice A4 f.features.length c4,.slice A5 f.ahQ.length c5,.slice A6 f.regions.length c6,.slice A7 f.funcs.length c7,.slice A8 f.cvt.length c8];have aZ:Hid (Below w.heap.size w Wf):=hd0 hbf;have lg:=hd0 bW;have kN:=hd0 (hF.below hbf);obtain⟨Wg,oH,hbg,hkg⟩:=aQ Wf 107 #[.int .i64 0,.int .i64 0];have dh:Hid (Below w.heap.size w Wg):=hd0 (aZ.out.trans (hbg.mono aZ.out.size));have ak:=hd0 hkg;have aH:Hid (Bk Wg w.heap.size 32 #[.int .i64 f.unit,.slice A1 f.ahO.length c1,.slice A2 f.chars.length c2,.slice A3 f.ahP.length c3,.slice A4 f.features.length c4,.slice A5 f.ahQ.length c5,.slice A6 f.regions.length c6,.slice A7 f.funcs.length c7,.slice A8 f.cvt.length c8]):=hd0 (Bk.bel bW hbg);have HF2:=hd0 (kN.out.below hbg);have hzg:=dh.out.size;have mQ:Hid (Below Wg.heap.size Wg Wg):=hd0 (akl _ _);have k0:=aH.out.cell 0;have k1:=aH.out.cell 1;have k2:=aH.out.cell 2;have k3:=aH.out.cell 3;have k4:=aH.out.cell 4;have k5:=aH.out.cell 5;have k6:=aH.out.cell 6;have k7:=aH.out.cell 7;have k8:=aH.out.cell 8;have g0:=hkg.cell 0;have g1:=hkg.cell 1;have z0:=hkg.frozen 0;have z1:=hkg.frozen 1;clear hF hbf bW hbg hkg kN;go_enter Tryz.func67,Tryz.ntmps67
 by_cases h1:40<f.ahP.length
 ·have bh1:decide ((40:Int)<f.ahP.length)=true:=decide_eq_true (by omega);go_wp2_with fail
  exact aX rfl ak.out mQ.out aZ.out.size dh.out _ _ rfl (fun h=>absurd h (by decide))
 have bh1:decide ((40:Int)<f.ahP.length)=false:=decide_eq_false (by omega);go_wp2_with fail
 try clear hWf
 try clear oH
 go_loopw [3] (fun i wr=>∃q:Nat,q<=f.ahP.length/\i= .int .i64 q/\Hid (Up f.ahP q (ai6 f.ahO.length f.ahP.length))/\Below Wg.heap.size Wg wr) (fun i _=>f.ahP.length - (intOf i).toNat)
 case atStart=>exact⟨0,by omega,rfl,hd0 (Up.zero _ _),akl _ _⟩
 case round=>
  obtain⟨w5,rfl⟩:∃x,x=wr:=⟨_,rfl⟩
  obtain⟨q,hq,rfl,hup,hb5⟩:=hrel;have iD:Hid (Below Wg.heap.size Wg w5):=hd0 hb5;have E5:Hid (Below w.heap.size w w5):=hd0 (dh.out.trans (hb5.mono hzg));clear k0 k1 k2 k3 k4 k5 k6 k7 k8 g0 g1 z0 z1;obtain⟨k0,k1,k2,k3,k4,k5,k6,k7,k8⟩:=nine aH.out hb5;have g0:=ak.out.at hb5 0 rfl;have g1:=ak.out.at hb5 1 rfl;have z0:=(ak.out.bel hb5).frozen 0;have z1:=(ak.out.bel hb5).frozen 1;by_cases hlt:q<f.ahP.length
  ·obtain⟨x,hx⟩:∃x,f.ahP[q]? =some x:=⟨_,ako hlt⟩
   have Hx:=hd0 hx;have HO:=hd0 (PD w5 f A1 A2 A3 A4 A5 A6 A7 A8 c1 c2 c3 c4 c5 c6 c7 c8 q (HF2.out.below hb5) x hx hlt hng hnl (hL x (akt hx)));clear hb5 hx;go_wp2_with fail
   refine HO.out.mono ?_;rintro e w6 ⟨r6,rfl,vk,rD⟩;have hb6:Below Wg.heap.size Wg w6:=iD.out.trans (rD.mono iD.out.size);have gY:Hid (Below Wg.heap.size Wg w6):=hd0 hb6;have E6:Hid (Below w.heap.size w w6):=hd0 (dh.out.trans (hb6.mono hzg));clear k0 k1 k2 k3 k4 k5 k6 k7 k8 g0 g1 z0 z1;obtain⟨k0,k1,k2,k3,k4,k5,k6,k7,k8⟩:=nine aH.out hb6;have g0:=ak.out.at hb6 0 rfl;have g1:=ak.out.at hb6 1 rfl;have z0:=(ak.out.bel hb6).frozen 0;have z1:=(ak.out.bel hb6).frozen 1;clear HO hb6 rD;by_cases hr:r6=0
   ·have dm:=hd0 (hup.out.snoc Hx.out (vk hr));clear vk;subst hr;go_wp2_with fail
    go_roundw
    case rel=>exact⟨q+1,by omega,by simp,dm,gY.out⟩
    case measure=>simp[intOf];omega
   clear vk;have OU:(r6 !=0)=true:=gI hr;go_wp2_with fail
   exact aX rfl ak.out gY.out aZ.out.size E6.out _ _ rfl (fun h=>absurd h hr)
  obtain rfl:q=f.ahP.length:=by omega
  have HU5:=hd0 (fun x (hx:x∈f.ahP)=>hup.out.all x hx);clear hup hb5;by_cases h3:20<f.features.length
  ·have kM:decide ((20:Int)<f.features.length)=true:=decide_eq_true (by omega);go_wp2_with fail
   exact aX rfl ak.out iD.out aZ.out.size E5.out _ _ rfl (fun h=>absurd h (by decide))
  have kM:decide ((20:Int)<f.features.length)=false:=decide_eq_false (by omega);go_wp2_with fail
  go_loopw [5] (fun i wr=>∃q:Nat,q<=f.features.length/\i= .int .i64 q/\Hid (Up f.features q (ai8 f.ahP.length))/\Below Wg.heap.size Wg wr) (fun i _=>f.features.length - (intOf i).toNat)
  case atStart=>exact⟨0,by omega,rfl,hd0 (Up.zero _ _),iD.out⟩
  case round=>
   obtain⟨w7,rfl⟩:∃x,x=wr:=⟨_,rfl⟩
   obtain⟨q,hq,rfl,hup,hb7⟩:=hrel;have nJ:Hid (Below Wg.heap.size Wg w7):=hd0 hb7;have E7:Hid (Below w.heap.size w w7):=hd0 (dh.out.trans (hb7.mono hzg));clear k0 k1 k2 k3 k4 k5 k6 k7 k8 g0 g1 z0 z1;obtain⟨k0,k1,k2,k3,k4,k5,k6,k7,k8⟩:=nine aH.out hb7;have g0:=ak.out.at hb7 0 rfl;have g1:=ak.out.at hb7 1 rfl;have z0:=(ak.out.bel hb7).frozen 0;have z1:=(ak.out.bel hb7).frozen 1;by_cases hlt:q<f.features.length
   ·obtain⟨x,hx⟩:∃x,f.features[q]? =some x:=⟨_,ako hlt⟩
    have Hx:=hd0 hx;have HO:=hd0 (V9 w7 f A1 A2 A3 A4 A5 A6 A7 A8 c1 c2 c3 c4 c5 c6 c7 c8 q (HF2.out.below hb7) x hx hlt hnf hnl (hX x (akt hx)));clear hb7 hx;go_wp2_with fail
    refine HO.out.mono ?_;rintro e w8 ⟨r8,rfl,Df,abm⟩;have hb8:Below Wg.heap.size Wg w8:=nJ.out.trans (abm.mono nJ.out.size);have lD:Hid (Below Wg.heap.size Wg w8):=hd0 hb8;have E8:Hid (Below w.heap.size w w8):=hd0 (dh.out.trans (hb8.mono hzg));clear k0 k1 k2 k3 k4 k5 k6 k7 k8 g0 g1 z0 z1;obtain⟨k0,k1,k2,k3,k4,k5,k6,k7,k8⟩:=nine aH.out hb8;have g0:=ak.out.at hb8 0 rfl;have g1:=ak.out.at hb8 1 rfl;have z0:=(ak.out.bel hb8).frozen 0;have z1:=(ak.out.bel hb8).frozen 1;clear HO hb8 abm;by_cases hr:r8=0
    ·have dm:=hd0 (hup.out.snoc Hx.out (Df hr));clear Df;subst hr;go_wp2_with fail
     go_roundw
     case rel=>exact⟨q+1,by omega,by simp,dm,lD.out⟩
     case measure=>simp[intOf];omega
    clear Df;have OU:(r8 !=0)=true:=gI hr;go_wp2_with fail
    exact aX rfl ak.out lD.out aZ.out.size E8.out _ _ rfl (fun h=>absurd h hr)
   obtain rfl:q=f.features.length:=by omega
   have HU7:=hd0 (fun x (hx:x∈f.features)=>hup.out.all x hx);clear hup hb7;have hg:P:=HP.out.mpr ⟨⟨by omega,HU5.out⟩,by omega,HU7.out⟩;go_wp2_with fail
   exact aX rfl ak.out nJ.out aZ.out.size E7.out 0 _ rfl (fun _=>hg)
attribute [-go_sem] Builtin.append_
theorem qA {w:World}{base:Nat}{e t:TypeId}{s:Nat}{v:Value}{n:Nat}{xs:List Value}(h:w.ownsRow base e s v n xs){g:Nat}{cs:Array Value}(hb:Bk w g t cs)(hne:t≠e)(i:Nat)(u:Value):(w.setCell ⟨g,i,none⟩ u).ownsRow base e s v n xs:=h.kept (dC w ⟨g,i,none⟩ u) (bQ h hb hne)
theorem Gg (w:World)(Bd p gm cm:Nat)(gl:Gl)(s:PS)(rv:Rows)(K:Nat)(A:Option Addr)(n c:Nat)(ws:List P3)(t:B)(l:List B)(hP:PSt w Bd p gm cm gl s rv K)(hL:aif w A n ws)(hT:af ws=t::l)(hK:K<=10000000000)(hc:n<=c):
  Calls Tryz.prog 90 #[.pointer (some ⟨p,0,none⟩),.slice A n c] w (ahS w Bd p gm cm gl (K+n) (kK s l)):=by
 have hn:n=l.length+1:=by rw[<-hL.length];exact dE hT
 have hB:=hP.size;have hnn:=hL.few;cases l with
 |nil=>
  have HR:Hid (kK s []= .error 22):=rfl;simp only[ln] at hn;subst hn;clear hP hL hT hc;go_enter Tryz.func90,Tryz.ntmps90
  go_wp2;go_ret
  exact ahS.bad HR.out (akl _ _)
 |cons t1 r=>
  obtain⟨A',hsub,hrd,hlen⟩:=hL.sub hc 2 2 rfl (by simp at hn;omega);obtain⟨b,o,rfl,hb,q1,hz1⟩:=hL.word (k:=1) (t:=t1) (by rw[hT];rfl) (d:=3) rfl;have HP:=hd0 hP;have hpb:p<w.heap.size:=hP.par.lt;obtain⟨A0,c0,hv⟩:=hP.slice (i:=3) (by decide);have kp:w.cell? ⟨p,4,none⟩=some (rv 3).v:=hP.par.cell 4;rw[hv] at kp;have hfew:=hP.few 3 (by decide);have uS:=hd0 (fun w rb er h=>wP w rb p er t1 h);have hrest:af (ws.drop 2)=r:=by rw[Ak,hT];rfl
  have hns:=hd0 (fun w1 rb (hr:Rdr w1 rb p (bg 0 t1)) (hb:Below w.heap.size w w1)=>ug w1 rb p (bg 0 t1) A' (n - 2) (c - 2) (ws.drop 2) hr (hrd.below hb) hlen (by omega));rw[hrest] at hns;have HR:Hid (kK s (t1::r)=fin (fB (bg 0 t1) r) {s with f:= {s.f with features:=s.f.features++[⟨t1,r.map aA⟩]}}):=rfl;have hfl:=hd0 (fun(w:World) S=>zh w S (r.map aA) (Ei r));have hlm:Hid (n - 2=(r.map aA).length):=by show _=_;simp at hn ⊢;omega
  have hn2:2<=n:=by simp at hn;omega
  have en:((n:Int)<2)=False:=by simp;omega
  clear hP hL hT hrd hlen hn hz1 hrest;go_enter Tryz.func90,Tryz.ntmps90
  go_wp2_with fail
  refine(fZ w p).mono ?_;rintro e w1 ⟨rfl,hr1,hb1⟩;obtain⟨hc1,hf1⟩:=aj hb1;have KL:w1.cell? ⟨b,o+3+2,none⟩=some (.string ⟨t1.toArray⟩):=(hc1 _ _ hb).trans q1;have hl1:=hr1.lt;have hs1:=hb1.size;have hbl:b<w1.heap.size:=by omega
  have hbc:b≠w1.heap.size:=by omega
  have hpc:p≠w1.heap.size:=by omega
  have jV:=hd0 (hr1.alloc (.cells #[.string ⟨#[]⟩,.slice none 0 0] 97));have Hb1:=hd0 (hb1.alloc hs1 (.cells #[.string ⟨#[]⟩,.slice none 0 0] 97));have oL:Hid (Bk (w1.alloc (.cells #[.string ⟨#[]⟩,.slice none 0 0] 97)) w1.heap.size 97 #[.string ⟨#[]⟩,.slice none 0 0]):=Bk.new _ _ _;clear hr1 hb1 hc1 hf1;go_wp2_with fail
  refine(uS.out _ _ _ (by exact jV.out)).mono ?_;rintro e w2 ⟨rfl,hr2,hg2⟩;have hb2:=aU Hb1.out hg2 (nr _);have hk2:Bk w2 w1.heap.size 97 #[.string ⟨#[]⟩,.slice none 0 0]:=Bk.kept2 hg2 oL.out (by omega);have Ae:w2.cell? ⟨w1.heap.size,0,none⟩=some (.string ⟨#[]⟩):=hk2.cell 0;have y2:=hk2.frozen 0;have hs2:=hk2.lt;have lm:Hid (Rdr (w2.setCell ⟨w1.heap.size,0,none⟩ (.string ⟨t1.toArray⟩)) w.heap.size p (bg 0 t1)):=Bk.far hr2 (by simp;omega) _;have Hb2:=hd0 (hb2.setCell (p:=⟨w1.heap.size,0,none⟩) (by simp;omega) (.string ⟨t1.toArray⟩));have mi:Hid (Bk (w2.setCell ⟨w1.heap.size,0,none⟩ (.string ⟨t1.toArray⟩)) w1.heap.size 97 #[.string ⟨t1.toArray⟩,.slice none 0 0]):=hk2.set 0 _;clear hr2 hg2 hb2 hk2;go_wp2_with fail
  refine(hns.out _ _ (by exact lm.out) (by exact Hb2.out)).mono ?_;rintro e w3 ⟨v,rfl,A4,c4,rfl,fD,hr4,hg4⟩;have hb3:=aU Hb2.out hg4 (nr _);have hk3:Bk w3 w1.heap.size 97 #[.string ⟨t1.toArray⟩,.slice none 0 0]:=Bk.kept2 hg4 mi.out (by omega);have DD:w3.cell? ⟨w1.heap.size,1,none⟩=some (.slice none 0 0):=hk3.cell 1;have y3:=hk3.frozen 1;obtain⟨W1,hW1⟩:∃W1,w3.setCell ⟨w1.heap.size,1,none⟩ (.slice A4 (n - 2) c4)=W1:=⟨_,rfl⟩
  have lG:Rdr W1 w.heap.size p (fB (bg 0 t1) r):=hW1 ▸ Bk.far hr4 (by simp;omega) _;have Hb3:Below w.heap.size w W1:=hW1 ▸ (hb3.setCell (p:=⟨w1.heap.size,1,none⟩) (by simp;omega) (.slice A4 (n - 2) c4));have nD:Bk W1 w1.heap.size 97 #[.string ⟨t1.toArray⟩,.slice A4 (n - 2) c4]:=hW1 ▸ hk3.set 1 _;have U6:=qA fD hk3 (by decide) 1 (.slice A4 (n - 2) c4);rw[hW1] at U6;have aB:=HP.out.below Hb3;have vC:W1.cell? ⟨p,4,none⟩=some (.slice A0 (rv 3).n c0):=((aj Hb3).1 _ _ hpb).trans kp;have tN:W1.cell? ⟨w1.heap.size,0,none⟩=some (.string ⟨t1.toArray⟩):=nD.cell 0;have vK:W1.cell? ⟨w1.heap.size,1,none⟩=some (.slice A4 (n - 2) c4):=nD.cell 1;have zp:p<W1.heap.size:=aB.par.lt;have zc:w1.heap.size<W1.heap.size:=nD.lt;have hown:=aB.live.own 3 (by decide);rw[hv] at hown;obtain⟨A5,c5,w9,hrun,di,aN,bz⟩:=iE aal 27 W1 Bd _ c0 A0 _ #[.string ⟨t1.toArray⟩,.slice A4 (n - 2) c4] rfl hown (by simp[Value.oneCell']) (by omega) aB.size;rw[<-hv] at aN bz;have bI:Bk w9 p jq (dV s rv gm cm):=(aB.row (i:=3) (by decide) (r:=⟨.slice A5 ((rv 3).n+1) c5,_,_⟩) aN di bz).1;have jw:=Bk.grown lG aN (aB.live.own 3 (by decide)) (by decide);have x9:w9.cell? ⟨p,4,none⟩=some (rv 3).v:=bI.cell 4;have y9:=bI.frozen 4;have z9:w9.cell? ⟨w.heap.size,1,none⟩=some (.int .i64 (fB (bg 0 t1) r)):=jw.cell 1;have hel:ah2 W1 (Fz W1 rv) [.string ⟨t1.toArray⟩,.slice A4 (n - 2) c4] ⟨t1,r.map aA⟩:=by rw[hlm.out] at U6 ⊢;refine⟨A4,c4,rfl,Sl.aiC U6 (hfl.out _ _) (HP.out.fresh U6 ?_ (by decide)) (by decide)⟩;simp;omega
  have bG:=hd0 (PSt.ajC (m:=1) (K':=K+n) aB aN di bz (ys:=[⟨t1,r.map aA⟩]) rfl (Fl.one (R:=ah2) hel rfl) (by omega));have iy:=hd0 ((Hb3.mono hB).trans (aB.aiA (i:=3) (by decide) aN 4 (.slice A5 ((rv 3).n+1) c5) aB.size));have HQ:=hd0 (KQ.below (cm:=cm) Hb3);clear hown di aN bz bI jw aB hel U6 Hb3 lG nD fD hr4 hg4 hb3 hk3 lm Hb2 mi jV Hb1 oL;go_wp2_with fail
  try rw[hW1]
  go_region
  all_goals
   go_wp2;go_ret
   exact ahS.fin HR.out iy.out (HQ.out.trans bG.out.2) bG.out.1
end
section
open Go.RowKit
attribute [-go_sem] Builtin.append_
theorem UN (s:PS)(l:List B)(h:l.length≠4):lC s l= .error 22:=by
 unfold lC;split
 ·rfl
 split
 ·simp at h
 rfl
theorem MS (w:World)(Bd p gm cm:Nat)(gl:Gl)(s:PS)(rv:Rows)(K:Nat)(A:Option Addr)(n c:Nat)(ws:List P3)(t:B)(l:List B)(hP:PSt w Bd p gm cm gl s rv K)(hL:aif w A n ws)(hT:af ws=t::l)(hK:K<=10000000000)(hc:n<=c){init:List ahR}{g:ahR}(hs:s.f.ahO=init++[g]){G n0 c9 q:Nat}(h0:(rv 0).v= .slice (some ⟨G,0,none⟩) n0 c9)(hq:q=init.length*9):
  Calls Tryz.prog 84 #[.pointer (some ⟨p,0,none⟩),.slice A n c,.pointer (some ⟨G,q,none⟩)] w (ahS w Bd p gm cm gl (K+n) (lC s l)):=by
 have hn:n=l.length+1:=by rw[<-hL.length];exact dE hT
 have hB:=hP.size;by_cases h1:l.length=4
 ·obtain⟨t1,t2,t3,t4,rfl⟩:∃t1 t2 t3 t4,l=[t1,t2,t3,t4]:=by
   match l,h1 with
   |[a,b,c,d],_=>exact⟨a,b,c,d,rfl⟩
  obtain⟨A',hsub,hrd,hlen⟩:=hL.sub hc 1 1 rfl (by omega);simp only[aF,ln] at hn;subst hn;have HP:=hd0 hP;obtain⟨G',c9',ci,gv,-,-,hGb,jJ,yG,sF⟩:=hP.aiz hs;obtain⟨rfl,hn0,rfl⟩:G'=G/\init.length+1=n0/\c9'=c9:=by rw[gv] at h0;simpa using h0
  have hpb:G'<w.heap.size:=hGb;obtain⟨A0,c0,hv⟩:=hP.slice (i:=12) (by decide);have kp:w.cell? ⟨G',q+7,none⟩=some (rv 12).v:=by rw[hq];exact jJ 7 (by decide)
  rw[hv] at kp;have hfew:=hP.few 12 (by decide);have HR:Hid (lC s [t1,t2,t3,t4]=fin (fB 0 [t1,t2,t3,t4]) {s with f:= {s.f with ahO:=init++[{g with deltas:=g.deltas++[⟨aA t1,aA t2,aA t3,aA t4⟩]}]}}):=by show _=_;unfold lC;rw[if_neg (vG hs)];simp only;rw[sU s _ hs]
  have Hs:=hd0 hs;have Hq:=hd0 hq;have H0:=hd0 h0;have tq:=hd0 sF;have HI1:=hd0 (dG t1);have HI2:=hd0 (dG t2);have HI3:=hd0 (dG t3);have HI4:=hd0 (dG t4);have hns:=hd0 (fun w1 rb (hr:Rdr w1 rb p 0) (hb:Below w.heap.size w w1)=>ug w1 rb p 0 A' (0+1+1+1+1+1 - 1) (c - 1) (ws.drop 1) hr (hrd.below hb) hlen (by omega));rw[jA hT] at hns;have hcI:Hid (aW (List.map aA [t1,t2,t3,t4])=[.int .i64 (aA t1),.int .i64 (aA t2),.int .i64 (aA t3),.int .i64 (aA t4)]):=rfl;rw[hcI.out] at hns;generalize fB 0 [t1,t2,t3,t4]=er at*
  generalize aA t1=v1 at*
  generalize aA t2=v2 at*
  generalize aA t3=v3 at*
  generalize aA t4=v4 at*
  clear hP hL hT hrd hlen hs hq h0 gv jJ yG sF hn0 hcI h1;simp only[ak3,Nat.reduceAdd,Nat.reduceSub] at hsub hns hK ⊢;go_enter Tryz.func84,Tryz.ntmps84
  go_wp2_with fail
  refine(fZ w p).mono ?_;rintro e w1 ⟨rfl,hr1,hb1⟩;have hz1:=hb1.size;go_wp2_with fail
  refine(hns.out _ _ hr1 hb1).mono ?_;rintro e w2 ⟨v,rfl,A4,c4,rfl,fD,hr4,hg4⟩;have hb2:=aU hb1 hg4 (nr _);obtain⟨b4,WV,rfl,hk4,hx4⟩:∃b4 WV,A4=some ⟨b4,0,none⟩/\Bk w2 b4 3 WV/\∀j u,[Value.int .i64 v1,.int .i64 v2,.int .i64 v3,.int .i64 v4][j]? =some u->WV[j]? =some u:=by
   rcases fD.2 with⟨_,h⟩|⟨g,cap,cur,e,_,hh,_,_,_,htk⟩
   ·omega
   simp only[alh,true_and] at e;obtain⟨rfl,-⟩:=e;refine⟨g,cur,rfl,hh,fun j u hu=> ?_⟩;rw[<-htk,akP] at hu;split at hu
   ·simpa using hu
   cases hu
  have m0:w2.cell? ⟨b4,0,none⟩=some (.int .i64 v1):=(hk4.cell 0).trans (hx4 0 _ rfl);have m1:w2.cell? ⟨b4,1,none⟩=some (.int .i64 v2):=(hk4.cell 1).trans (hx4 1 _ rfl);have m2:w2.cell? ⟨b4,2,none⟩=some (.int .i64 v3):=(hk4.cell 2).trans (hx4 2 _ rfl);have m3:w2.cell? ⟨b4,3,none⟩=some (.int .i64 v4):=(hk4.cell 3).trans (hx4 3 _ rfl);have hb4:b4<w2.heap.size:=hk4.lt;have k2:w2.cell? ⟨G',q+7,none⟩=some (.slice A0 (rv 12).n c0):=((aj hb2).1 _ _ hpb).trans kp;have hG2:G'<w2.heap.size:=aku hpb hb2.size;have aB:=HP.out.below hb2;have hown:=aB.live.own 12 (by decide);rw[hv] at hown;obtain⟨A5,c5,w9,hrun,di,aN,bz⟩:=iE ZK 56 w2 Bd _ c0 A0 _ #[.int .i64 v1,.int .i64 v2,.int .i64 v3,.int .i64 v4] rfl hown (by simp[Value.oneCell']) (by omega) aB.size;rw[<-hv] at aN bz;obtain⟨Gi,bI,ru⟩:∃cur,Bk w9 G' 59 cur/\cur[q+7]? =some (rv 12).v:=by obtain⟨cur,aY⟩:=tq.out;exact⟨cur,Bk.grown (aY.keep (hb2.block G' hpb)) aN (aB.live.own 12 (by decide)) (by decide),by rw[<-aY.cell,kp,hv]⟩
  have jw:=Bk.grown hr4 aN (aB.live.own 12 (by decide)) (by decide);have x9:w9.cell? ⟨G',q+7,none⟩=some (rv 12).v:=(bI.cell _).trans ru;have y9:=bI.frozen (q+7);have z9:w9.cell? ⟨w.heap.size,1,none⟩=some (.int .i64 er):=jw.cell 1;have bG:=hd0 (PSt.ajJ (m:=1) (K':=K+5) aB Hs.out H0.out aN di bz (ys:=[⟨v1,v2,v3,v4⟩]) rfl (Fl.one (R:=ah3) (⟨rfl,HI1.out,HI2.out,HI3.out,HI4.out⟩) rfl) (by omega));rw[<-Hq.out] at bG;have iy:=hd0 (hb2.mono hB);have HQ:=hd0 (KQ.below (cm:=cm) hb2);clear hown di aN bz bI jw aB hb2 fD hr4 hg4 hb1 hr1 hk4 hx4 ru;go_wp2_with fail
  go_region
  all_goals
   go_wp2;go_ret
   obtain⟨rv',g1,g2,g3,-⟩:=bG.out;exact ahS.fin HR.out (iy.out.trans g3) (HQ.out.trans g2) g1
 have HR:=hd0 (UN s l h1);have e1:((n:Int)==5)=false:=by simp;omega
 have e2:((n:Int) !=5)=true:=by simp;omega
 clear hP hL hT h1 hn hs h0 hq;go_enter Tryz.func84,Tryz.ntmps84
 go_wp2;go_ret
 exact ahS.bad HR.out (akl _ _)
end
section
open Go.RowKit Go.Shelf
attribute [local go_sem] Oper.semAt_some
def CI (J:List Bo->World->Prop)(g:Nat)(W0:World)(pre:List Hg)(W:World):Prop:=J (EZ g pre) W/\KC W0 W
theorem ack {J:List Bo->World->Prop}{g B B':Nat}{W0:World}(hJ:OwnFrom B J)(hB:B<=B'):OwnFrom B' (CI J g W0):=by
 intro s A C row hs hg hr;have hr':∀r,row=some r->∃o:Obj,A.heap[r]? =some o/\o.isCells=false:=fun r e=>(hr r e).2
 refine⟨hJ _ A C row hs.1 hg (fun r e=>⟨nt hB (hr r e).1,(hr r e).2⟩),fun b cs t fz hb h1 h2=> ?_,nt hs.2.size hg.size⟩;have h3:=hs.2.same b cs t fz hb h1 h2;exact(grownBy_keeps_cells hg hr' h3 rfl).trans h3
theorem VM {w:World}{base n c size:Nat}{e:TypeId}{A:Option Addr}{xs:List Value}(h:w.ownsRow base e size (.slice A n c) n xs):n<=c/\c<=9223372036854775807:=by
 rcases h.2 with⟨h,h0⟩|⟨g',cap',cur,h,_,_,h3,h4,_⟩
 ·simp only[alh] at h;omega
 simp only[alh,true_and] at h;obtain⟨_,rfl⟩:=h;simp only[maxLen] at h4;omega
theorem Qj (w:World)(n m pb eb cv cu:Nat)(Av Eu:Option Addr)(cs:List Value)(h1c:∀u∈cs,u.oneCell'=true)(es:List Int)(hP:Bk w pb 51 #[.slice Av n cv])(hrow:Rd w w.heap.size Av n 3 cs)(hQ:Bk w eb 22 #[.slice Eu m cu])(hEr:RdT w 3 Eu m 1 (aW es))
  (hn:n<=100000000000) (hm:m<=100000000000):
  Gives Tryz.prog 144 #[.pointer (some ⟨pb,0,none⟩),.pointer (some ⟨eb,0,none⟩)] Rl (VC n cs es) KC (SC n es) 10 w:=by
 intro l k J W hk hl hW hJ hY h0;have hP1:=hP.below hW;have hQ1:=hQ.below hW;have hr1:=hrow.below hW (nr _);have hE1:=hEr.below hW;have hs1:=hW.size;have p0:W.cell? ⟨pb,0,none⟩=some (.slice Av n cv):=hP1.cell 0;have e0:W.cell? ⟨eb,0,none⟩=some (.slice Eu m cu):=hQ1.cell 0;have zp:=hP1.lt;have ze:=hQ1.lt;clear hP hQ hrow hEr;refine callsIn_of_wp_marks Tryz.func144 rfl trivial ?_ rfl;simp only[Tryz.ntmps144,List.size_toArray,aF,ln,Nat.reduceAdd,Nat.reduceSub,Array.replicate_succ,Array.replicate_zero,List.push_toArray,List.append_toArray,akX,akC]
 gi_wp2_with fail
 gi_region_with (first
  |(refine⟨trivial,fun _=>nt (by decide) hk,?_⟩;gi_at_call 142;refine(callsIn_wide.2 (Ub _ w.heap.size Av n cv cs h1c ((hr1.alloc (by omega) _).drew) (by simp;omega) (by omega))).mono ?_;rintro e w1 ⟨v,rfl,hown,Vu⟩;have hb1:=jF Vu;have e1:=ae hb1 (bU _ e0);obtain⟨A1,c1,rfl,-⟩:=Rd.ail hown)
  |(refine⟨trivial,fun _=>nt (by decide) hk,?_⟩;gi_at_call 145;refine(callsIn_wide.2 (JR A1 Eu n c1 m cu w1)).mono ?_;rintro e w' ⟨rfl,rfl⟩))
 all_goals
  obtain⟨g,hg⟩:∃g,0<n->A1=some ⟨g,0,none⟩:=by
   by_cases h:0<n
   ·obtain⟨g,cap,hv,_,_⟩:=hown.form h;simp only[alh,true_and] at hv;exact⟨g,fun _=>hv.1⟩
   exact⟨0,fun h'=>absurd h' h⟩
  have hcap:=VM hown;have hY1:Bk w1 W.heap.size 220 #[.func (.yield l) #[] #[]]:=(bk1 W (.func (.yield l) #[] #[]) 220).below hb1;have hs2:=hY1.lt;have hE2:=(hE1.below ((akl _ _).alloc (nr _) (.cells #[.func (.yield l) #[] #[]] 220))).below hb1
  gi_wp2_with fail
  obtain⟨W0,hW0⟩:∃W0,(w1.alloc (.cells #[.slice A1 n c1] 51)).alloc (.cells #[.slice Eu m cu] 22)=W0:=⟨_,rfl⟩
  have hz0:W0.heap.size=w1.heap.size+2:=by rw[<-hW0];simp
  have hb0:Below w1.heap.size w1 W0:=by rw[<-hW0];exact((akl _ _).alloc (nr _) _).alloc (by simp) _
  have hcr:Bk W0 w1.heap.size 51 #[.slice A1 n c1]:=by rw[<-hW0];exact(bk1 _ _ _).alloc _
  have hce:Bk W0 (w1.heap.size+1) 22 #[.slice Eu m cu]:=by rw[<-hW0];exact bk2 _ _ _ _
  have hE3:=hE2.below hb0;have hY3:=hY1.below hb0;have hrow3:RdT W0 139 A1 n 3 cs:=(jf hown).below hb0;have hJ0:J [] W0:=by have a1:=hJ.alloc (.cells #[.func (.yield l) #[] #[]] 220) h0;have a2:J [] w1:=hJ [] _ w1 none a1 (aC hb1 none) (fun r e=>by cases e);exact hJ [] _ W0 none a2 (aC hb0 none) (fun r e=>by cases e)
  rw[hW0];clear hW0;have HY:=hd0 hY;have HJ:=hd0 hJ;clear hY hJ;refine vP (d:=8) (by omega) (gf:=177) (lb:= #[.pointer (some ⟨w1.heap.size+1,0,none⟩),.pointer (some ⟨w1.heap.size,0,none⟩)]) rfl (enters_of Tryz.func177 (by kernel_rfl) rfl) (fun _=>rfl)
   (Mc W0 _ _ g 0 n c1 m cu A1 Eu es hce hcr hE3 hg hcap.1 hcap.2 (by omega))
   (fun h k=>h.trans k) (fun W l o o' h hc=>KC.put W l o o' h hc) (fun _ _ _ _ _ _ h _ _=>h)
   (CI J g W0) (ack HJ.out (by omega)) ⟨hJ0,KC.refl _⟩
   (fun x=> {tmps:= #[.func (.yield l) #[] #[],.pointer (some ⟨pb,0,none⟩),.pointer (some ⟨eb,0,none⟩),.pointer (some ⟨W.heap.size,0,none⟩),.int .i64 (x.1:Int),.slice (some ⟨g,x.2.1*3,none⟩) (x.2.2+1 - x.2.1) (x.2.2+1 - x.2.1),.slice Av n cv,.slice A1 n c1,.slice Eu m cu,.func (.func 177) #[] #[.pointer (some ⟨w1.heap.size+1,0,none⟩),.pointer (some ⟨w1.heap.size,0,none⟩)],.int .i64 (x.1:Int),.slice (some ⟨g,x.2.1*3,none⟩) (x.2.2+1 - x.2.1) (x.2.2+1 - x.2.1),undef,undef,undef,undef,undef],defers:=[]}) ?assign ?body ?done
  case assign=>
   intro l2 x W2 K hK;simp only[P9,ak3]
   gi_wp2
   exact hK
  case body=>
   rintro l2 pre ⟨idx,f,e⟩ W2 ⟨hJ2,hK2⟩ ⟨hpx,hfe,hen⟩;dsimp only at hfe hen ⊢;have ahg:W2.cell? ⟨W.heap.size,0,none⟩=some (.func (.yield l) #[] #[]):=(hK2.bk hY3 (by decide) (by decide)).cell 0;obtain rfl:=hg (by omega);have hv:VC n cs es (EZ g pre) (idx,f,e,g) W2:=by refine⟨?_,hfe,hen,hK2.rdT hrow3 (by decide) (by decide)⟩;have:=hpx.map (fun p:Hg=>(p.1,p.2.1,p.2.2,g));simpa [EZ] using this
   obtain⟨fn,tmps,assign,body,hy,hR⟩:=HY.out _ (idx,f,e,g) W2 hJ2 hv;simp only[Rl] at hy;clear hpx hv
   gi_wp2
   refine⟨rfl,?_⟩;refine(RoundIn.wide hR).mono ?_;rintro e3 W3 ⟨rfl,hJ3,IP,hK3⟩;have hout:Hid (CI J g W0 (pre++[(idx,f,e)]) W3/\KC W2 W3/\KeepsOthers W2 W3):=by refine⟨⟨by simpa [EZ] using hJ3,hK2.trans IP⟩,IP,hK3⟩
   clear hJ3 IP hK3
   gi_wp2
   exact hout.out
  case done=>
   rintro D ys W2 hD hS ⟨hJ2,hK2⟩ hK;have HS:=hd0 hS;clear hS
   gi_wp2
   refine⟨by simp,.inl ⟨_,_,rfl,run_takeDeferred hK,?_⟩⟩;refine⟨_,results_none rfl _ _ _,⟨_,rfl⟩,_,⟨g,?_⟩,HJ.out.putObj _ hJ2 (by omega) hK rfl⟩;have h:=HS.out;unfold SP at h;rw[<-h]
end
section
open Go.RowKit
theorem Su (w:World)(f:Fnt)(A1 A2 A3 A4 A5 A6 A7 A8:Option Addr)(c1 c2 c3 c4 c5 c6 c7 c8:Nat)(hF:FIn ⟨A1,c1,A2,c2,A3,c3,A4,c4,A5,c5,A6,c6,A7,c7,A8,c8⟩ f w)(hn:Big f.ahO.length)(hm:Big f.chars.length):Calls Tryz.prog 66 #[.agg #[.int .i64 f.unit,.slice A1 f.ahO.length c1,.slice A2 f.chars.length c2,.slice A3 f.ahP.length c3,.slice A4 f.features.length c4,.slice A5 f.ahQ.length c5,.slice A6 f.regions.length c6,.slice A7 f.funcs.length c7,.slice A8 f.cvt.length c8]] w (Ed w (f.chars.length<=1000/\∀c∈f.chars,(0<=c.rune/\c.rune<=1114111)/\In f.ahO.length c.ahU)):=by
 obtain⟨P,HP⟩:∃P:Prop,Hid (P=(f.chars.length<=1000/\∀c∈f.chars,(0<=c.rune/\c.rune<=1114111)/\In f.ahO.length c.ahU)):=⟨_,rfl⟩
 rw[<-HP.out];unfold Big at hn hm;obtain⟨Wf,hWf,hbf,bW⟩:=aQ w 32 #[.int .i64 f.unit,.slice A1 f.ahO.length c1,.slice A2 f.chars.length c2,.slice A3 f.ahP.length c3,.slice A4 f.features.length c4,.slice A5 f.ahQ.length c5,.slice A6 f.regions.length c6,.slice A7 f.funcs.length c7,.slice A8 f.cvt.length c8];have aZ:Hid (Below w.heap.size w Wf):=hd0 hbf;have lg:=hd0 bW;have kN:=hd0 (hF.below hbf);obtain⟨Wg,oH,hbg,hkg⟩:=aQ Wf 107 #[.int .i64 0,.int .i64 0];have dh:Hid (Below w.heap.size w Wg):=hd0 (aZ.out.trans (hbg.mono aZ.out.size));have ak:=hd0 hkg;have aH:Hid (Bk Wg w.heap.size 32 #[.int .i64 f.unit,.slice A1 f.ahO.length c1,.slice A2 f.chars.length c2,.slice A3 f.ahP.length c3,.slice A4 f.features.length c4,.slice A5 f.ahQ.length c5,.slice A6 f.regions.length c6,.slice A7 f.funcs.length c7,.slice A8 f.cvt.length c8]):=hd0 (Bk.bel bW hbg);have HF2:=hd0 (kN.out.below hbg);have hzg:=dh.out.size;have mQ:Hid (Below Wg.heap.size Wg Wg):=hd0 (akl _ _);have k2:=aH.out.cell 2;have g0:=hkg.cell 0;have g1:=hkg.cell 1;have z0:=hkg.frozen 0;have z1:=hkg.frozen 1;clear hF hbf bW hbg hkg kN;go_enter Tryz.func66,Tryz.ntmps66
 by_cases h1:1000<f.chars.length
 ·have bh1:decide ((1000:Int)<f.chars.length)=true:=decide_eq_true (by omega);go_wp2_with fail
  exact aX rfl ak.out mQ.out aZ.out.size dh.out _ _ rfl (fun h=>absurd h (by decide))
 have bh1:decide ((1000:Int)<f.chars.length)=false:=decide_eq_false (by omega);go_wp2_with fail
 try clear hWf
 try clear oH
 go_loopw [3] (fun i wr=>∃q:Nat,q<=f.chars.length/\i= .int .i64 q/\Hid (Up f.chars q (fun c=>(0<=c.rune/\c.rune<=1114111)/\In f.ahO.length c.ahU))/\Below Wg.heap.size Wg wr) (fun i _=>f.chars.length - (intOf i).toNat)
 case atStart=>exact⟨0,by omega,rfl,hd0 (Up.zero _ _),akl _ _⟩
 case round=>
  obtain⟨w5,rfl⟩:∃x,x=wr:=⟨_,rfl⟩
  obtain⟨q,hq,rfl,hup,hb5⟩:=hrel;have iD:Hid (Below Wg.heap.size Wg w5):=hd0 hb5;have E5:Hid (Below w.heap.size w w5):=hd0 (dh.out.trans (hb5.mono hzg));clear k2;clear g0 g1 z0 z1;have k2:=aH.out.at hb5 2 rfl;have g0:=ak.out.at hb5 0 rfl;have g1:=ak.out.at hb5 1 rfl;have z0:=(ak.out.bel hb5).frozen 0;have z1:=(ak.out.bel hb5).frozen 1;by_cases hlt:q<f.chars.length
  ·obtain⟨b,o,x,rfl,hb,hx,q0,q1,-,-⟩:=(HF2.out.chars.lw ait.ok hb5).chr hlt;obtain⟨W3,hW3,hb3,hk3⟩:=aQ w5 93 #[.int .i64 x.rune,.int .i64 x.ahU];have HB3:Hid (Below Wg.heap.size Wg W3):=hd0 (hb5.trans (hb3.mono hb5.size));have E3:Hid (Below w.heap.size w W3):=hd0 (dh.out.trans (HB3.out.mono hzg));have HC3:=hd0 (HF2.out.chars.lw ait.ok HB3.out);have u1:=aH.out.at HB3.out 1 rfl;have u2:=aH.out.at HB3.out 2 rfl;have p0:=hk3.cell 0;have p1:=hk3.cell 1;clear g0 g1 z0 z1;have g0:=ak.out.at HB3.out 0 rfl;have g1:=ak.out.at HB3.out 1 rfl;have z0:=(ak.out.bel HB3.out).frozen 0;have z1:=(ak.out.bel HB3.out).frozen 1;clear hb hb3 hk3 hb5;by_cases h1:x.rune<0
   ·have bh1:decide (x.rune<0)=true:=decide_eq_true h1;go_wp2_with fail
    exact aX rfl ak.out HB3.out aZ.out.size E3.out _ _ rfl (fun h=>absurd h (by decide))
   have bh1:decide (x.rune<0)=false:=decide_eq_false h1;by_cases h2:1114111<x.rune
   ·have mf:decide (1114111<x.rune)=true:=decide_eq_true h2;go_wp2_with fail
    exact aX rfl ak.out HB3.out aZ.out.size E3.out _ _ rfl (fun h=>absurd h (by decide))
   have mf:decide (1114111<x.rune)=false:=decide_eq_false h2;by_cases h3:x.ahU<0
   ·have kM:decide (x.ahU<0)=true:=decide_eq_true h3;go_wp2_with fail
    exact aX rfl ak.out HB3.out aZ.out.size E3.out _ _ rfl (fun h=>absurd h (by decide))
   have kM:decide (x.ahU<0)=false:=decide_eq_false h3;by_cases h4:(f.ahO.length:Int)<=x.ahU
   ·have uK:decide ((f.ahO.length:Int)<=x.ahU)=true:=decide_eq_true h4;go_wp2_with fail
    exact aX rfl ak.out HB3.out aZ.out.size E3.out _ _ rfl (fun h=>absurd h (by decide))
   have uK:decide ((f.ahO.length:Int)<=x.ahU)=false:=decide_eq_false h4;have dm:=hd0 (hup.out.snoc hx.out ⟨⟨by omega,by omega⟩,In.of h3 h4⟩);by_cases hk0:q=0
   ·subst hk0;simp only[Nat.zero_mul,Nat.add_zero] at q0 q1;have e0:((0:Nat):Int)=0:=rfl;rw[e0];go_wp2_with fail
    go_quiet (fail)
    go_wp2_with fail
    go_roundw
    case rel=>exact⟨0+1,by omega,by simp,dm,below_drewN HB3.out _⟩
    case measure=>simp[intOf];omega
   obtain⟨j,rfl⟩:∃j,q=j+1:=⟨q - 1,by omega⟩
   have bk:decide (0<((j+1:Nat):Int))=true:=decide_eq_true (by omega);have ej:((j+1:Nat):Int) - 1=(j:Int):=by omega
   obtain⟨b',o',y,e',hb',hy,v0,v1,r1⟩:=HC3.out.chr (k:=j) (by omega);obtain⟨rfl,rfl⟩:b=b'/\o=o':=by simpa using e'
   clear hb' r1 e';by_cases h5:x.rune<=y.rune
   ·have vI:decide (x.rune<=y.rune)=true:=decide_eq_true h5;go_wp2_with fail
    go_quiet (fail)
    go_wp2_with fail
    exact aX rfl ak.out (below_drewN HB3.out _) aZ.out.size (below_drewN E3.out _) _ _ rfl (fun h=>absurd h (by decide))
   have vI:decide (x.rune<=y.rune)=false:=decide_eq_false h5;go_wp2_with fail
   go_quiet (fail)
   go_wp2_with fail
   go_roundw
   case rel=>exact⟨j+1+1,by omega,by simp,dm,below_drewN HB3.out _⟩
   case measure=>simp[intOf];omega
  obtain rfl:q=f.chars.length:=by omega
  have hg:P:=HP.out.mpr ⟨by omega,fun n hn=>hup.out.all n hn⟩;clear hb5;go_wp2_with fail
  exact aX rfl ak.out iD.out aZ.out.size E5.out 0 _ rfl (fun _=>hg)
end
end Go.Proofs.YtkijckccfookeaaGreatDoor
