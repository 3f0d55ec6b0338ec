/- A row's beginning, 'l[:k]'. -/
import Derived.Test.YtkijckccfookeaaDoorMkM
import Derived.Handy
set_option linter.unusedVariables false
set_option linter.unusedSimpArgs false
set_option maxRecDepth 100000
set_option maxHeartbeats 32000000
namespace Go.Proofs.YtkijckccfookeaaDoor
open Go.RowKit
section
theorem Vo {T E size:Nat}(hT:Tryd.prog.underlying T=some (.slice E))(hs:∀w,(sizeOf E).run Tryd.prog w= .ok size w)(A:Option Addr)(n c k:Nat)(z:Int)(hz:z=(k:Int))(hk:k<=c)(w:World):
  (Instr.slice T (.slice A n c) none (some (.int .i64 z)) none).run Tryd.prog w= .ok (.slice (if c=0 then A else A.map (·.add 0)) k c) w:=by
 subst hz;simp[Instr.slice,Instr.sliceBounds,Instr.sliceBound,asIntOf,run_underlying hT,hs,Result.andThen,hk]
theorem Rd.pre {w:World}{B:Nat}{A:Option Addr}{n c k:Nat}{zs:List Int}(h:Rd w B A n 1 (aN zs))(hk:k<=n)(hc:n<=c):Rd w B (if c=0 then A else A.map (·.add 0)) k 1 (aN (zs.take k)):=by
 have hl:=h.1;simp only[aN,agL] at hl;refine⟨by simp only[aN,agL,agY];omega,fun h0=> ?_⟩;obtain⟨b,o,rfl,hb,hr⟩:=h.2 (by omega);rw[if_neg (by omega)];refine⟨b,o,rfl,hb,fun j u hu=>hr j u ?_⟩;simp only[aN,List.map_take,ag6] at hu;split at hu
 ·exact hu
 cases hu
def One {α:Type}(R:Rel α):Prop:=∀w S cs x,R w S cs x->∀u∈cs,u.oneCell'=true
theorem One.int:One aeQ:=fun w S cs x h u hu=>by obtain⟨rfl,-⟩:=h;simp at hu;subst hu;rfl
theorem One.ins:One ae9:=fun w S cs x h u hu=>by obtain⟨rfl,-⟩:=h;simp at hu;rcases hu with rfl|rfl<;>rfl
theorem One.part:One afg:=fun w S cs x h u hu=>by obtain⟨rfl,-⟩:=h;simp at hu;rcases hu with rfl|rfl|rfl<;>rfl
theorem One.anch:One ae6:=fun w S cs x h u hu=>by obtain⟨rfl,-⟩:=h;simp at hu;rcases hu with rfl|rfl|rfl|rfl<;>rfl
theorem One.agD:One afc:=fun w S cs x h u hu=>by obtain⟨rfl,-⟩:=h;simp at hu;rcases hu with rfl|rfl|rfl|rfl<;>rfl
theorem One.chr:One afb:=fun w S cs x h u hu=>by obtain⟨rfl,-⟩:=h;simp at hu;rcases hu with rfl|rfl<;>rfl
theorem One.aeT:One aeU:=fun w S cs x h u hu=>by
 obtain⟨A3,c3,A4,c4,A5,c5,A6,c6,A7,c7,A8,c8,rfl,-⟩:=h;simp at hu;rcases hu with rfl|rfl|rfl|rfl|rfl|rfl|rfl|rfl|rfl<;>rfl
theorem One.rule:One ae8:=fun w S cs x h u hu=>by
 obtain⟨A0,c0,A1,c1,A2,c2,A3,c3,A4,c4,rfl,-⟩:=h;simp at hu;rcases hu with rfl|rfl|rfl|rfl|rfl|rfl<;>rfl
theorem One.look:One aeV:=fun w S cs x h u hu=>by
 obtain⟨A2,c2,rfl,-⟩:=h;simp at hu;rcases hu with rfl|rfl|rfl<;>rfl
theorem One.afY:One aeW:=fun w S cs x h u hu=>by
 obtain⟨A2,c2,rfl,-⟩:=h;simp at hu;rcases hu with rfl|rfl<;>rfl
theorem One.afE:One ae2:=fun w S cs x h u hu=>by obtain⟨rfl,-⟩:=h;simp at hu;rcases hu with rfl|rfl|rfl|rfl<;>rfl
theorem One.reg:One aeY:=fun w S cs x h u hu=>by obtain⟨A,c,rfl,-⟩:=h;simp at hu;subst hu;rfl
theorem One.code:One ae1:=fun w S cs x h u hu=>by obtain⟨A,c,rfl,-⟩:=h;simp at hu;subst hu;rfl
section
variable {α:Type} {R:Rel α} {size:Nat} {w w':World} {S:Bs} {cells:List Value} {xs:List α} {A:Option Addr}
theorem Fl.one' (one:One R)(hs:0<size)(h:Fl R size w S cells xs):∀u∈cells,u.oneCell'=true:=fun u hu=>by
 obtain⟨i,hi⟩:=agX.1 hu;have hlt:=(agG.1 hi).1;rw[h.1] at hlt;have hk:i / size<xs.length:=Nat.div_lt_of_lt_mul (by rw[Nat.mul_comm];exact hlt);obtain⟨cs,hr,hl,hc⟩:=h.2 (i / size) _ (agH hk);have hm:i % size<cs.length:=by rw[hl];exact Nat.mod_lt _ hs
 have:=hc (i % size) _ (agH hm);rw[Nat.mul_comm,Nat.div_add_mod,hi] at this;cases this;exact one _ _ _ _ hr _ (List.getElem_mem hm)
theorem Sl.rdO (one:One R)(hs:0<size)(hS:∀b,S b->b<w.heap.size)(h:Sl R size w S A xs):∃cells,Fl R size w S cells xs/\Rd w w.heap.size A xs.length size cells/\∀u∈cells,u.oneCell'=true:=by obtain⟨cells,h1,h2⟩:=h;refine⟨cells,h1,⟨h1.1,fun h0=> ?_⟩,h1.one' one hs⟩;obtain⟨b,o,e,hb,hc⟩:=h2 h0;exact⟨b,o,e,hS b hb,hc⟩
theorem Fl.put (hf:Fl R size w S cells xs){i:Nat}{x x':α}(hx:xs[i]? =some x){k:Nat}(hk:k<size)(v:Value)(hr:∀cs,R w S cs x->cs.length=size->R w S (cs.set k v) x'):Fl R size w S (cells.set (i*size+k) v) (xs.set i x'):=by
 have hi:=(agG.1 hx).1;refine⟨by simp[hf.1],fun j y hy=> ?_⟩;by_cases e:i=j
 ·subst e;rw[List.getElem?_set_self hi] at hy;cases hy;obtain⟨cs,h1,h2,h3⟩:=hf.2 i x hx;refine⟨cs.set k v,hr cs h1 h2,by simp[h2],fun m u hu=> ?_⟩;by_cases em:k=m
  ·subst em;rw[List.getElem?_set_self (by omega)] at hu;cases hu;have:=(agG.1 (h3 k _ (agH (by omega)))).1;rw[List.getElem?_set_self this]
  rw[List.getElem?_set_ne em] at hu;rw[List.getElem?_set_ne (by omega)];exact h3 m u hu
 rw[List.getElem?_set_ne e] at hy;obtain⟨cs,h1,h2,h3⟩:=hf.2 j y hy;refine⟨cs,h1,h2,fun m u hu=> ?_⟩;have hm:=(agG.1 hu).1;have:i*size+k≠j*size+m:=by
  rcases Nat.lt_or_gt_of_ne e with h|h
  ·have:=ahi size (show i+1<=j from h);rw[ahq] at this;omega
  have:=ahi size (show j+1<=i from h);rw[ahq] at this;omega
 rw[List.getElem?_set_ne this];exact h3 m u hu
theorem Bk.sl {g:Nat}{t:TypeId}{cur:Array Value}(hb:Bk w g t cur)(hc:∀(j:Nat) u,cells[j]? =some u->cur[j]? =some u)(hf:Fl R size w S cells xs)(hg:S g):Sl R size w S (some ⟨g,0,none⟩) xs:=⟨cells,hf,fun _=>⟨g,0,rfl,hg,fun j u hu=>by rw[ahh];exact(hb.cell j).trans (hc j u hu)⟩⟩
theorem Sl.put (ok:R.Ok){g:Nat}{t:TypeId}{cur:Array Value}(hb:Bk w g t cur)(hc:∀(j:Nat) u,cells[j]? =some u->cur[j]? =some u)(hf:Fl R size w S cells xs)(hg:¬S g){i:Nat}{x x':α}(hx:xs[i]? =some x){k:Nat}(hk:k<size)(v:Value)
  (hr:∀cs,R w S cs x->cs.length=size->R w S (cs.set k v) x'):Sl R size (w.setCell ⟨g,i*size+k,none⟩ v) (fun b=>S b\/b=g) (some ⟨g,0,none⟩) (xs.set i x'):=by
 have h1:=hf.put hx hk v hr;have sm:Same S w (w.setCell ⟨g,i*size+k,none⟩ v):=fun b hb'=>Below.heap_setCell w ⟨g,i*size+k,none⟩ v b (fun e=>hg (by have e2:b=g:=e;rw[<-e2];exact hb'))
 refine(hb.set (i*size+k) v).sl (fun j u hu=> ?_) ((h1.keep ok sm).mono ok fun b h=> .inl h) (.inr rfl);by_cases e:i*size+k=j
 ·subst e;have hlt:i*size+k<cells.length:=by have:=(agG.1 hu).1;simpa using this
  rw[List.getElem?_set_self hlt] at hu;cases hu;have:=hc _ _ (agH hlt);have hcl:=(agI.1 this).1;simp[hcl]
 rw[List.getElem?_set_ne e] at hu;rw[Array.getElem?_setIfInBounds_ne e];exact hc j u hu
theorem CO {base n c:Nat}{e:TypeId}(h:w.ownsRow base e size (.slice A n c) n cells)(hn:0<n)(hs:0<size):∃g cur,A=some ⟨g,0,none⟩/\base<=g/\Bk w g e cur/\∀(j:Nat) u,cells[j]? =some u->cur[j]? =some u:=by
 rcases h.2 with⟨h1,h2⟩|⟨g,cap,cur,h1,hb,hh,hn',-⟩
 ·omega
 simp only[ahr,true_and] at h1;obtain⟨rfl,rfl⟩:=h1;refine⟨g,cur,rfl,hb,hh,fun j u hu=> ?_⟩;have:=h.cells (g:=g) rfl j u hu;rw[addr_add] at this;have h2:=Bk.cell (w:=w) hh j;simp only[ahh] at this;rw[h2] at this;exact this
end
theorem Tf.low {w w':World}(hb:Below w.heap.size w w'):∀b,Tf w b->Tf w' b:=fun b ⟨cs,t,hk,ht⟩=>⟨cs,t,(hb.block b hk.lt).trans hk,ht⟩
theorem Sl.tf {α:Type}{R:Rel α}(ok:R.Ok){size:Nat}{w w':World}{A:Option Addr}{xs:List α}(h:Sl R size w (Tf w) A xs)(hb:Below w.heap.size w w'):Sl R size w' (Tf w') A xs:=h.moved ok ⟨fun b hx=>hb.block b (Tf.lt b hx),Tf.low hb⟩
end
section
attribute [-go_sem] storeVar
theorem EY {W:World}{g:Nat}{cs:Array Value}{tmps:Array Value}(hb:W.heap[g]? =some (.cells cs eH (0,0)))(hsz:cs.size=9)(h2:tmps.getD 2 undef= .pointer (some ⟨g,0,none⟩):=by rfl):(results Tryd.f6 tmps).run Tryd.prog W= .ok (.agg cs) W:=by rw[kH (fn:=Tryd.f6) (p:=2) (ty:=eH) rfl,h2];have:=run_loadVar_row (P:=Tryd.prog) W g eH eH cs (0,0) _ hb Tryd.underlying32 rfl (by rw[tZ,hsz]);simp[asAddr,Result.andThen,this]
theorem Ig (w:World)(A:Option Addr)(n c:Nat)(zs:List Int)(hc:n<=c)(hr:Rd w w.heap.size A n 1 (aN zs))(hz:∀z∈zs,I64 z):Calls Tryd.prog 6 #[.slice A n c] w (vK w):=by
 have hs:=Vo (size:=1) (T:=22) (E:=3) Tryd.underlying22 (by intro w;kernel_rfl) A n c (min n 300) (min (n:Int) 300) (by omega) (by omega);have hrp:=hd0 (hr.pre (c:=c) (Nat.min_le_left n 300) hc);have hzp:=hd0 (fun z (h:z∈zs.take (min n 300))=>hz z (List.mem_of_mem_take h));clear hr hz;obtain⟨A',hA⟩:∃A',(if c=0 then A else A.map (·.add 0))=A':=⟨_,rfl⟩
 rw[hA] at hs hrp;clear hA;go_enter Tryd.func6,Tryd.ntmps6
 go_wp2_with fail
 obtain⟨W1,hW1⟩:∃W1,w.alloc (.cells zeroFn eH)=W1:=⟨_,rfl⟩
 change Calls _ _ _ (w.alloc (.cells zeroFn eH)) _;rw[hW1];have hb1:Below w.heap.size w W1:=by rw[<-hW1];exact(agE _ _).alloc (ai _) _
 have hk1:Bk W1 w.heap.size eH zeroFn:=by rw[<-hW1];exact Bk.new _ _ _
 have hz1:w.heap.size<W1.heap.size:=hk1.lt;clear hW1;have Yz:Rd W1 W1.heap.size A' (min n 300) 1 (aN (zs.take (min n 300))):=(hrp.out.below hb1 (ai _)).mono hb1.size;refine(NM W1 A' (min n 300) c (zs.take (min n 300)) Yz hzp.out (by omega)).mono ?_;rintro e w' ⟨f,fc,h1,rfl,h2,h3⟩;have H1:=hd0 h1;have Es:Bk w' w.heap.size eH zeroFn:=(h3.block _ hz1).trans hk1;have hsz:fc.length=9:=by obtain⟨A1,c1,A2,c2,A3,c3,A4,c4,A5,c5,A6,c6,A7,c7,A8,c8,rfl,-⟩:=h2;rfl
 have hone:(fc.toArray.all fun x=>x.oneCell')=true:=by obtain⟨A1,c1,A2,c2,A3,c3,A4,c4,A5,c5,A6,c6,A7,c7,A8,c8,rfl,-⟩:=h2;simp[Value.oneCell']
 have hst:=run_storeVar_row (P:=Tryd.prog) w' w.heap.size eH eH zeroFn fc.toArray Es (by rw[tZ,List.size_toArray,hsz]) (by simp[zeroFn,hsz]) hone;have jm:=setRow_heap w' w.heap.size zeroFn fc.toArray eH (0,0) Es;have heq:∀b,b≠w.heap.size->(w'.setRow w.heap.size fc.toArray).heap[b]? =w'.heap[b]? :=fun b hb=>setRow_other w' w.heap.size b _ hb
 have hne:∀b,Tf w' b->b≠w.heap.size:=by rintro b ⟨cs,t,hk,ht⟩ rfl;have:=(jM hk Es).1;subst this;exact absurd ht (by decide)
 have hfE:afe (w'.setRow w.heap.size fc.toArray) (Tf (w'.setRow w.heap.size fc.toArray)) fc f:=afe.ok.mono (afe.ok.keep h2 (fun b hb=>heq b (hne b hb))) (fun b hb=>by
  obtain⟨cs,t,hk,ht⟩:=hb;exact⟨cs,t,(heq b (hne b ⟨cs,t,hk,ht⟩)).trans hk,ht⟩)
 have hbw:Below w.heap.size w (w'.setRow w.heap.size fc.toArray):=(hb1.trans (h3.mono (by omega))).trans ⟨rfl,rfl,rfl,by simp,fun b hb=>heq b (by omega)⟩;generalize w'.setRow w.heap.size fc.toArray=wE at*
 have BO:Hid (vK w (.returned (.agg fc.toArray)) wE):=hd0 ⟨f,fc,H1.out,rfl,hfE,hbw⟩;have YU:=hd0 jm;have qi:Hid (fc.toArray.size=9):=hd0 (by simpa using hsz);clear jm hbw hfE hne heq h1 h2 h3 Es hone Yz hk1 hb1 hs hsz;go_wp2_with fail
 exact bodyPost_ret (EY YU.out qi.out) rfl BO.out
end
section
abbrev Rf:TypeId:=23
structure TD (w W:World)(rb:Nat)(cs:List Value)(g:Fnt):Prop where
 low:Below w.heap.size w W
 rbl:w.heap.size<rb
 box:Bk W w.heap.size eH cs.toArray
 res:Bk W rb eH zeroFn
 fnt:afe W (Tf W) cs g
def jF (w:World)(e:Ending)(w':World):Prop:=∃(g:Fnt) (gc:List Value),afj g/\e= .returned (.agg gc.toArray)/\afe w' (Tf w') gc g/\Below w.heap.size w w'
section
variable {w W W':World} {rb:Nat} {cs cs':List Value} {g g':Fnt}
theorem JJ (hs:∀b,Tf W b->W'.heap[b]? =W.heap[b]?):Same (Tf W) W W'/\∀b,Tf W b->Tf W' b:=
 ⟨hs,fun b hb=>by
  obtain⟨c,t,hk,ht⟩:=hb;exact⟨c,t,(hs b ⟨c,t,hk,ht⟩).trans hk,ht⟩⟩
theorem afe.moved (h:afe W (Tf W) cs g)(hs:∀b,Tf W b->W'.heap[b]? =W.heap[b]?):afe W' (Tf W') cs g:=afe.ok.mono (afe.ok.keep h (JJ hs).1) (JJ hs).2
theorem TD.below (h:TD w W rb cs g)(hb:Below W.heap.size W W'):TD w W' rb cs g:=⟨h.low.trans (hb.mono h.low.size),h.rbl,(hb.block _ h.box.lt).trans h.box,(hb.block _ h.res.lt).trans h.res,h.fnt.moved fun b hx=>hb.block b (Tf.lt b hx)⟩
theorem Tf.agA (hb:Bk W w.heap.size eH cs.toArray):∀b,Tf W b->b≠w.heap.size:=by rintro b ⟨c,t,hk,ht⟩ rfl;have:=(jM hk hb).1;subst this;exact absurd ht (by decide)
theorem TD.field (h:TD w W rb cs g)(j:Nat)(v:Value)(hf:afe W (Tf W) (cs.set j v) g'):TD w (W.setCell ⟨w.heap.size,j,none⟩ v) rb (cs.set j v) g':=by refine⟨h.low.setCell (ai _) _,h.rbl,?_,h.res.far (Nat.ne_of_gt h.rbl) _,hf.moved fun b hx=>Below.heap_setCell W ⟨w.heap.size,j,none⟩ v b (fun e=>Tf.agA h.box b hx e)⟩;have:=h.box.set j v;simpa using this
theorem Qq (h:afe W (Tf W) cs g):cs.length=9/\(cs.toArray.all fun x=>x.oneCell')=true:=by obtain⟨A1,c1,A2,c2,A3,c3,A4,c4,A5,c5,A6,c6,A7,c7,A8,c8,rfl,-⟩:=h;exact⟨rfl,by simp[Value.oneCell']⟩
theorem fC {tmps:Array Value}{b:Nat}{cs:Array Value}(hb:W.heap[b]? =some (.cells cs eH (0,0)))(hsz:cs.size=9)(h2:tmps.getD 4 undef= .pointer (some ⟨b,0,none⟩):=by rfl):(results Tryd.f7 tmps).run Tryd.prog W= .ok (.agg cs) W:=by rw[kH (fn:=Tryd.f7) (p:=4) (ty:=eH) rfl,h2];have:=run_loadVar_row (P:=Tryd.prog) W b eH eH cs (0,0) _ hb Tryd.underlying32 rfl (by rw[tZ,hsz]);simp[asAddr,Result.andThen,this]
theorem TD.fin (h:TD w W rb cs g)(hB:afj g):((storeVar eH ⟨rb,0,none⟩ (.agg cs.toArray)).run Tryd.prog W= .ok () (W.setRow rb cs.toArray))/\Bk (W.setRow rb cs.toArray) rb eH cs.toArray/\cs.toArray.size=9/\jF w (.returned (.agg cs.toArray)) (W.setRow rb cs.toArray):=by
 obtain⟨h9,hone⟩:=Qq h.fnt;have heq:∀b,b≠rb->(W.setRow rb cs.toArray).heap[b]? =W.heap[b]? :=fun b hb=>setRow_other W _ b _ hb
 have hne:∀b,Tf W b->b≠rb:=by rintro b ⟨c,t,hk,ht⟩ rfl;have:=(jM hk h.res).1;subst this;exact absurd ht (by decide)
 refine⟨?_,setRow_heap W _ zeroFn cs.toArray eH (0,0) h.res,by simpa using h9,g,cs,hB,rfl,h.fnt.moved fun b hx=>heq b (hne b hx),h.low.trans ⟨rfl,rfl,rfl,by simp,fun b hb=>heq b (by have:=h.rbl;omega)⟩⟩;exact run_storeVar_row (P:=Tryd.prog) W rb eH eH zeroFn cs.toArray h.res (by rw[tZ,List.size_toArray,h9]) (by simp[zeroFn,h9]) hone
theorem NS {α:Type}{R:Rel α}(ok:R.Ok){size base n c:Nat}{e:TypeId}{A:Option Addr}{cells:List Value}{xs:List α}(h:W.ownsRow base e size (.slice A n c) n cells)(hf:Fl R size w (Tf w) cells xs)(low:Below w.heap.size w W)(he:e∈FO)(hs:0<size):Sl R size W (Tf W) A xs:=
 Sl.afQ h ((hf.keep ok fun b hx=>low.block b (Tf.lt b hx)).mono ok (Tf.low low)) (fun g hg=>by
  obtain⟨cur,hk⟩:=gW h g hg;exact⟨cur,e,hk,he⟩) hs
theorem mM {α:Type}{R:Rel α}(ok:R.Ok){S:Bs}{size base n c:Nat}{e:TypeId}{A:Option Addr}{c0 c1:List Value}{xs:List α}{y:α}(h:W.ownsRow base e size (.slice A n c) n (c0++c1))(hf:Fl R size w (Tf w) c0 xs)(low:Below w.heap.size w W)(hS:∀b,Tf w b->S b)(hy:R W S c1 y)(hl:c1.length=size)(hP:∀b cur,Bk W b e cur->base<=b->S b)(hs:0<size):Sl R size W S A (xs++[y]):=
 Sl.afQ h (((hf.keep ok fun b hx=>low.block b (Tf.lt b hx)).mono ok hS).snoc hy hl) (fun g hg=>by
  obtain⟨cur,hk⟩:=gW h g hg;exact hP g cur hk (h.lt g hg).1) hs
theorem gz {α:Type}{R:Rel α}(one:One R){e t size:Nat}(E:ElT e t size)(hs:0<size){A:Option Addr}{c:Nat}{xs:List α}(h:Sl R size w (Tf w) A xs)(hn:xs.length<=100000)(low:Below w.heap.size w W):
  ∃A' c' W2 c0,(Builtin.append_ #[t,t] t #[.slice (some ⟨W.heap.size,0,none⟩) 0 0,.slice A xs.length c]).run Tryd.prog (W.alloc (.cells #[] e))= .ok (.slice A' xs.length c') W2/\W2.ownsRow W.heap.size e size (.slice A' xs.length c') xs.length c0/\Fl R size w (Tf w) c0 xs/\Below W.heap.size W W2:=by
 obtain⟨c0,h1,h2,h3⟩:=h.rdO one hs Tf.lt;obtain⟨A',c',W2,hrun,ho,hg,-⟩:=yg E t (W.alloc (.cells #[] e)) W.heap.size 0 0 (some ⟨W.heap.size,0,none⟩) [] (qM W W.heap.size e size 0 #[] (ai _) (by simp) (by omega)) w.heap.size A xs.length c c0 ((h2.below low (ai _)).alloc low.size _) h3 (by omega) (by simp);simp only[ahh,ahd] at hrun ho;refine⟨A',c',W2,c0,hrun,ho,h1,((agE W.heap.size W).alloc (ai _) (.cells #[] e)).grown hg (by simp) (fun g e=> ?_)⟩;simp[Value.ownBlock] at e;omega
end
def Fp.cl (p:Fp)(f:Fnt):List Value:=[.int .i64 f.unit,.slice p.A1 f.aeN.length p.c1,.slice p.A2 f.chars.length p.c2,.slice p.A3 f.aeO.length p.c3,.slice p.A4 f.features.length p.c4,.slice p.A5 f.aeP.length p.c5,.slice p.A6 f.regions.length p.c6,.slice p.A7 f.funcs.length p.c7,.slice p.A8 f.cvt.length p.c8]
structure TC (w W:World)(rb:Nat)(f:Fnt)(p:Fp)(G:Nat):Prop where
 low:Below w.heap.size w W
 rbl:w.heap.size<rb
 box:Bk W w.heap.size eH (p.cl f).toArray
 res:Bk W rb eH zeroFn
 gA:p.A1=some ⟨G,0,none⟩
 gG:w.heap.size<=G
 gB:∃gc iI,Bk W G fE iI/\(∀(j:Nat) u,gc[j]? =some u->iI[j]? =some u)/\Fl aeU 9 w (Tf w) gc f.aeN
 lB:∃lc,W.ownsRow w.heap.size fD 3 (.slice p.A3 f.aeO.length p.c3) f.aeO.length lc/\Fl aeV 3 w (Tf w) lc f.aeO
 unit:I64 f.unit
 chars:Sl afb 2 w (Tf w) p.A2 f.chars
 aeX:Sl aeW 2 w (Tf w) p.A4 f.features
 aeP:Sl ae2 4 w (Tf w) p.A5 f.aeP
 regs:Sl aeY 1 w (Tf w) p.A6 f.regions
 funcs:Sl ae1 1 w (Tf w) p.A7 f.funcs
 cvt:Sl aeQ 1 w (Tf w) p.A8 f.cvt
section
variable {w W W':World} {rb:Nat} {f:Fnt} {p:Fp} {G:Nat}
theorem TC.aeN (h:TC w W rb f p G):Sl aeU 9 W (Tf W) p.A1 f.aeN:=by obtain⟨gc,iI,h1,h2,h3⟩:=h.gB;rw[h.gA];exact h1.sl h2 ((h3.keep aeU.ok fun b hx=>h.low.block b (Tf.lt b hx)).mono aeU.ok (Tf.low h.low)) ⟨_,_,h1,by decide⟩
theorem TC.looks (h:TC w W rb f p G):Sl aeV 3 W (Tf W) p.A3 f.aeO:=by obtain⟨lc,h1,h2⟩:=h.lB;exact NS aeV.ok h1 h2 h.low (by decide) (by decide)
theorem TC.td (h:TC w W rb f p G):TD w W rb (p.cl f) f:=⟨h.low,h.rbl,h.box,h.res,_,_,_,_,_,_,_,_,_,_,_,_,_,_,_,_,rfl,h.unit,h.aeN,h.chars.tf afb.ok h.low,h.looks,h.aeX.tf aeW.ok h.low,h.aeP.tf ae2.ok h.low,h.regs.tf aeY.ok h.low,h.funcs.tf ae1.ok h.low,h.cvt.tf aeQ.ok h.low⟩
theorem TC.below (h:TC w W rb f p G)(hb:Below W.heap.size W W'):TC w W' rb f p G:=by obtain⟨gc,iI,h1,h2,h3⟩:=h.gB;obtain⟨lc,h4,h5⟩:=h.lB;exact⟨h.low.trans (hb.mono h.low.size),h.rbl,(hb.block _ h.box.lt).trans h.box,(hb.block _ h.res.lt).trans h.res,h.gA,h.gG,⟨gc,iI,(hb.block _ h1.lt).trans h1,h2,h3⟩,⟨lc,own_below h4 hb,h5⟩,h.unit,h.chars,h.aeX,h.aeP,h.regs,h.funcs,h.cvt⟩
theorem Bk.ne {a b:Nat}{t t':TypeId}{cs cs':Array Value}(h:Bk W a t cs)(k:Bk W b t' cs')(hne:t≠t'):a≠b:=fun e=>by
 subst e;exact hne (jM h k).1
theorem TC.aeT (h:TC w W rb f p G){i:Nat}(hi:i<f.aeN.length):∃x A3 c3 A4 c4 A5 c5 A6 c6 A7 c7 A8 c8,Hid (f.aeN[i]? =some x)/\W.cell? ⟨G,i*9+4,none⟩=some (.slice A4 x.ends.length c4)/\W.cell? ⟨G,i*9+5,none⟩=some (.slice A5 x.parts.length c5)/\W.cell? ⟨G,i*9+6,none⟩=some (.slice A6 x.anchors.length c6)/\W.cell? ⟨G,i*9+7,none⟩=some (.slice A7 x.deltas.length c7)/\W.cell? ⟨G,i*9+8,none⟩=some (.slice A8 x.hint.length c8)/\
  aeU w (Tf w) [.string ⟨x.name.toArray⟩,.int .i64 x.advance,.bool x.mark,.slice A3 x.points.length c3,.slice A4 x.ends.length c4,.slice A5 x.parts.length c5,.slice A6 x.anchors.length c6,.slice A7 x.deltas.length c7,.slice A8 x.hint.length c8] x/\Sl aeQ 1 w (Tf w) A4 x.ends/\Sl afg 3 w (Tf w) A5 x.parts/\Sl ae6 4 w (Tf w) A6 x.anchors/\Sl afc 4 w (Tf w) A7 x.deltas/\Sl ae9 2 w (Tf w) A8 x.hint:=by
 obtain⟨gc,iI,h1,h2,h3⟩:=h.gB;obtain⟨cs,hr,hl,hc⟩:=h3.2 i _ (agH hi);have hr':=hr;obtain⟨A3,c3,A4,c4,A5,c5,A6,c6,A7,c7,A8,c8,rfl,r1,s3,s4,s5,s6,s7,s8⟩:=hr;have key:∀(j:Nat) u,_=some u->W.cell? ⟨G,i*9+j,none⟩=some u:=fun j u hu=>(h1.cell _).trans (h2 _ _ (hc j u hu))
 exact⟨_,A3,c3,A4,c4,A5,c5,A6,c6,A7,c7,A8,c8,agH hi,key 4 _ rfl,key 5 _ rfl,key 6 _ rfl,key 7 _ rfl,key 8 _ rfl,hr',s4,s5,s6,s7,s8⟩
theorem TC.look (h:TC w W rb f p G){i:Nat}(hi:i<f.aeO.length):∃L x A2 c2,p.A3=some ⟨L,0,none⟩/\Hid (f.aeO[i]? =some x)/\W.cell? ⟨L,i*3+2,none⟩=some (.slice A2 x.rules.length c2)/\W.cell? ⟨L,i*3,none⟩=some (.int .i64 x.kind)/\Sl ae8 6 w (Tf w) A2 x.rules/\L<W.heap.size/\(∀j,W.frozen? ⟨L,j,none⟩=false)/\w.heap.size<=L/\∃cur,Bk W L fD cur:=by obtain⟨lc,h1,h2⟩:=h.lB;obtain⟨L,cur,e,hL,hb,hc⟩:=CO h1 (by omega) (by decide);obtain⟨cs,hr,hl,hk⟩:=h2.2 i _ (agH hi);obtain⟨A2,c2,rfl,r0,s2⟩:=hr;exact⟨L,_,A2,c2,e,agH hi,(hb.cell _).trans (hc _ _ (hk 2 _ rfl)),(hb.cell _).trans (hc _ _ (hk 0 _ rfl)),s2,hb.lt,hb.frozen,hL,cur,hb⟩
theorem TC.afU (h:TC w W rb f p G){i:Nat}{x x':aeS}(hx:f.aeN[i]? =some x){k:Nat}(hk:k<9)(v:Value)(hr:∀cs,aeU W (fun b=>Tf W b/\b≠G) cs x->aeU W (fun b=>Tf W b/\b≠G) (cs.set k v) x'):TD w (W.setCell ⟨G,i*9+k,none⟩ v) rb (p.cl f) {f with aeN:=f.aeN.set i x'} :=by
 obtain⟨gc,iI,hb,hc,hf⟩:=h.gB;have hG:=h.gG;have hS:∀b,Tf w b->Tf W b/\b≠G:=fun b hx=>⟨Tf.low h.low b hx,by have:=Tf.lt b hx;omega⟩
 have h2:=Sl.put (w:=W) aeU.ok hb hc ((hf.keep aeU.ok fun b hx=>h.low.block b (Tf.lt b hx)).mono aeU.ok hS) (fun e=>e.2 rfl) hx hk v (fun cs a _=>hr cs a);have kL:Below w.heap.size w (W.setCell ⟨G,i*9+k,none⟩ v):=h.low.setCell (by simpa using hG) _;have hg2:=hb.set (i*9+k) v;have hT:∀b,Tf W b->Tf (W.setCell ⟨G,i*9+k,none⟩ v) b:=fun b hx=>by
  by_cases e:b=G
  ·subst e;exact⟨_,_,hg2,by decide⟩
  obtain⟨c,t',hk',ht'⟩:=hx;exact⟨c,t',(Below.heap_setCell W ⟨G,i*9+k,none⟩ v b e).trans hk',ht'⟩
 obtain⟨lc,h4,h5⟩:=h.lB;have hl2:(W.setCell ⟨G,i*9+k,none⟩ v).ownsRow w.heap.size fD 3 (.slice p.A3 f.aeO.length p.c3) f.aeO.length lc:=(Sp.set hb (ai G) (i*9+k) v).own h4 (by decide);refine⟨kL,h.rbl,h.box.far (Bk.ne h.box hb (by decide)) _,h.res.far (Bk.ne h.res hb (by decide)) _,p.A1,p.c1,p.A2,p.c2,p.A3,p.c3,p.A4,p.c4,p.A5,p.c5,p.A6,p.c6,p.A7,p.c7,p.A8,p.c8,by simp[Fp.cl],h.unit,?_,h.chars.tf afb.ok kL,NS aeV.ok hl2 h5 kL (by decide) (by decide),h.aeX.tf aeW.ok kL,h.aeP.tf ae2.ok kL,h.regs.tf aeY.ok kL,h.funcs.tf ae1.ok kL,h.cvt.tf aeQ.ok kL⟩;rw[h.gA];exact h2.mono aeU.ok fun b hx=>by
  rcases hx with⟨hx,-⟩|rfl
  ·exact hT b hx
  exact⟨_,_,hg2,by decide⟩
theorem TC.afi (h:TC w W rb f p G){i L:Nat}(hL:p.A3=some ⟨L,0,none⟩){x x':Lookup}(hx:f.aeO[i]? =some x){k:Nat}(hk:k<3)(v:Value)(hr:∀cs,aeV W (fun b=>Tf W b/\b≠L) cs x->aeV W (fun b=>Tf W b/\b≠L) (cs.set k v) x'):TD w (W.setCell ⟨L,i*3+k,none⟩ v) rb (p.cl f) {f with aeO:=f.aeO.set i x'} :=by
 obtain⟨lc,h4,hf⟩:=h.lB;obtain⟨L',cur,e,hG,hb,hc⟩:=CO h4 (by have:=(agG.1 hx).1;omega) (by decide);rw[hL] at e;cases e;have hS:∀b,Tf w b->Tf W b/\b≠L:=fun b hx=>⟨Tf.low h.low b hx,by have:=Tf.lt b hx;omega⟩
 have h2:=Sl.put (w:=W) aeV.ok hb hc ((hf.keep aeV.ok fun b hx=>h.low.block b (Tf.lt b hx)).mono aeV.ok hS) (fun e=>e.2 rfl) hx hk v (fun cs a _=>hr cs a);have kL:Below w.heap.size w (W.setCell ⟨L,i*3+k,none⟩ v):=h.low.setCell (by simpa using hG) _;have hg2:=hb.set (i*3+k) v;have hT:∀b,Tf W b->Tf (W.setCell ⟨L,i*3+k,none⟩ v) b:=fun b hx=>by
  by_cases e:b=L
  ·subst e;exact⟨_,_,hg2,by decide⟩
  obtain⟨c,t',hk',ht'⟩:=hx;exact⟨c,t',(Below.heap_setCell W ⟨L,i*3+k,none⟩ v b e).trans hk',ht'⟩
 obtain⟨gc,iI,g1,g2,g3⟩:=h.gB;have hne:G≠L:=fun e=>by
  subst e;exact absurd (jM g1 hb).1 (by decide)
 have g4:=g1.far (p:=⟨L,i*3+k,none⟩) hne v;refine⟨kL,h.rbl,h.box.far (Bk.ne h.box hb (by decide)) _,h.res.far (Bk.ne h.res hb (by decide)) _,p.A1,p.c1,p.A2,p.c2,p.A3,p.c3,p.A4,p.c4,p.A5,p.c5,p.A6,p.c6,p.A7,p.c7,p.A8,p.c8,by simp[Fp.cl],h.unit,?_,h.chars.tf afb.ok kL,?_,h.aeX.tf aeW.ok kL,h.aeP.tf ae2.ok kL,h.regs.tf aeY.ok kL,h.funcs.tf ae1.ok kL,h.cvt.tf aeQ.ok kL⟩
 ·rw[h.gA];exact g4.sl g2 ((g3.keep aeU.ok fun b hx=>kL.block b (Tf.lt b hx)).mono aeU.ok (Tf.low kL)) ⟨_,_,g4,by decide⟩
 rw[hL];exact h2.mono aeV.ok fun b hx=>by
  rcases hx with⟨hx,-⟩|rfl
  ·exact hT b hx
  exact⟨_,_,hg2,by decide⟩
theorem TC.afL (h:TC w W rb f p G){i k:Nat}(hi:i<f.aeN.length)(hk:k<9):(∃v,W.cell? ⟨G,i*9+k,none⟩=some v)/\W.frozen? ⟨G,i*9+k,none⟩=false:=by
 obtain⟨gc,iI,h1,h2,h3⟩:=h.gB;obtain⟨cs,hr,hl,hc⟩:=h3.2 i _ (agH hi);obtain⟨u,hu⟩:∃u,cs[k]? =some u:=⟨_,agH (by omega)⟩
 exact⟨⟨u,(h1.cell _).trans (h2 _ _ (hc k u hu))⟩,h1.frozen _⟩
theorem TC.more {α:Type}{R:Rel α}(ok:R.Ok){size base n c:Nat}{e t:TypeId}{A:Option Addr}{c0 c1:List Value}{xs:List α}{y:α}{g:Nat}{cur:Array Value}(low:Below w.heap.size w W)(hb:Bk W g t cur)(hg:w.heap.size<=g)(ho:W.ownsRow base e size (.slice A n c) n (c0++c1))(hf:Fl R size w (Tf w) c0 xs)(hy:R W (fun b=>Tf W b/\b≠g) c1 y)(hl:c1.length=size)(he:e∈FO)(hne:e≠t)(hs:0<size):Sl R size W (fun b=>Tf W b/\b≠g) A (xs++[y]):=mM ok ho hf low (fun b hx=>⟨Tf.low low b hx,by have:=Tf.lt b hx;omega⟩) hy hl (fun b cur' hk _=>⟨⟨cur',e,hk,he⟩,Bk.ne hk hb hne⟩) hs
end
section
variable {W:World} {S:Bs} {cs:List Value} {x:aeS}
theorem aeU.agr (h:aeU W S cs x)(s:B):aeU W S (cs.set 0 (.string ⟨s.toArray⟩)) {x with name:=s} :=by obtain⟨A3,c3,A4,c4,A5,c5,A6,c6,A7,c7,A8,c8,rfl,r1,h3,h4,h5,h6,h7,h8⟩:=h;exact⟨A3,c3,A4,c4,A5,c5,A6,c6,A7,c7,A8,c8,rfl,r1,h3,h4,h5,h6,h7,h8⟩
theorem aeU.agv (h:aeU W S cs x)(n:Int)(hn:I64 n):aeU W S (cs.set 1 (.int .i64 n)) {x with advance:=n} :=by obtain⟨A3,c3,A4,c4,A5,c5,A6,c6,A7,c7,A8,c8,rfl,r1,h3,h4,h5,h6,h7,h8⟩:=h;exact⟨A3,c3,A4,c4,A5,c5,A6,c6,A7,c7,A8,c8,rfl,hn,h3,h4,h5,h6,h7,h8⟩
theorem aeU.agq (h:aeU W S cs x){A:Option Addr}{c n:Nat}{l:List Int}(hl:Sl aeQ 1 W S A l)(hn:l.length=n):aeU W S (cs.set 4 (.slice A n c)) {x with ends:=l} :=by subst hn;obtain⟨A3,c3,A4,c4,A5,c5,A6,c6,A7,c7,A8,c8,rfl,r1,h3,h4,h5,h6,h7,h8⟩:=h;exact⟨A3,c3,A,c,A5,c5,A6,c6,A7,c7,A8,c8,rfl,r1,h3,hl,h5,h6,h7,h8⟩
theorem aeU.age (h:aeU W S cs x){A:Option Addr}{c n:Nat}{l:List Part}(hl:Sl afg 3 W S A l)(hn:l.length=n):aeU W S (cs.set 5 (.slice A n c)) {x with parts:=l} :=by subst hn;obtain⟨A3,c3,A4,c4,A5,c5,A6,c6,A7,c7,A8,c8,rfl,r1,h3,h4,h5,h6,h7,h8⟩:=h;exact⟨A3,c3,A4,c4,A,c,A6,c6,A7,c7,A8,c8,rfl,r1,h3,h4,hl,h6,h7,h8⟩
theorem aeU.af8 (h:aeU W S cs x){A:Option Addr}{c n:Nat}{l:List ae5}(hl:Sl ae6 4 W S A l)(hn:l.length=n):aeU W S (cs.set 6 (.slice A n c)) {x with anchors:=l} :=by subst hn;obtain⟨A3,c3,A4,c4,A5,c5,A6,c6,A7,c7,A8,c8,rfl,r1,h3,h4,h5,h6,h7,h8⟩:=h;exact⟨A3,c3,A4,c4,A5,c5,A,c,A7,c7,A8,c8,rfl,r1,h3,h4,h5,hl,h7,h8⟩
theorem aeU.agb (h:aeU W S cs x){A:Option Addr}{c n:Nat}{l:List Delta}(hl:Sl afc 4 W S A l)(hn:l.length=n):aeU W S (cs.set 7 (.slice A n c)) {x with deltas:=l} :=by subst hn;obtain⟨A3,c3,A4,c4,A5,c5,A6,c6,A7,c7,A8,c8,rfl,r1,h3,h4,h5,h6,h7,h8⟩:=h;exact⟨A3,c3,A4,c4,A5,c5,A6,c6,A,c,A8,c8,rfl,r1,h3,h4,h5,h6,hl,h8⟩
theorem aeU.agn (h:aeU W S cs x){A:Option Addr}{c n:Nat}{l:List Ins}(hl:Sl ae9 2 W S A l)(hn:l.length=n):aeU W S (cs.set 8 (.slice A n c)) {x with hint:=l} :=by subst hn;obtain⟨A3,c3,A4,c4,A5,c5,A6,c6,A7,c7,A8,c8,rfl,r1,h3,h4,h5,h6,h7,h8⟩:=h;exact⟨A3,c3,A4,c4,A5,c5,A6,c6,A7,c7,A,c,rfl,r1,h3,h4,h5,h6,h7,hl⟩
theorem aeV.agp {x:Lookup}(h:aeV W S cs x)(n:Int)(hn:I64 n):aeV W S (cs.set 0 (.int .i64 n)) {x with kind:=n} :=by obtain⟨A2,c2,rfl,r0,h2⟩:=h;exact⟨A2,c2,rfl,hn,h2⟩
theorem aeV.af0 {x:Lookup}(h:aeV W S cs x){A:Option Addr}{c n:Nat}{l:List ae4}(hl:Sl ae8 6 W S A l)(hn:l.length=n):aeV W S (cs.set 2 (.slice A n c)) {x with rules:=l} :=by subst hn;obtain⟨A2,c2,rfl,r0,h2⟩:=h;exact⟨A,c,rfl,r0,hl⟩
end
section
variable {W:World} {S:Bs} {g:Nat}
theorem uf {cs:Array Value}(hb:Bk W g aF cs)(l:List Int)(hcs:cs.toList=aN l)(hl:∀x∈l,I64 x)(hg:S g):Sl aeQ 1 W S (some ⟨g,0,none⟩) l:=hb.sl (cells:=aN l) (fun j u hu=>by rw[<-hcs] at hu;simpa using hu) (iF _ _ l hl) hg
theorem Cc {α:Type}{R:Rel α}{size:Nat}{t:TypeId}{cs:Array Value}(hb:Bk W g t cs)(x:α)(hx:R W S cs.toList x)(hl:cs.size=size)(hg:S g):Sl R size W S (some ⟨g,0,none⟩) [x]:=hb.sl (cells:=cs.toList) (fun j u hu=>by simpa using hu) (Fl.one hx (by simpa using hl)) hg
theorem Zj {α:Type}{R:Rel α}{t:TypeId}{a b:Value}(hb:Bk W g t #[a,b])(x y:α)(hx:R W S [a] x)(hy:R W S [b] y)(hg:S g):Sl R 1 W S (some ⟨g,0,none⟩) [x,y]:=hb.sl (cells:=[a]++[b]) (fun j u hu=>by simpa using hu) ((Fl.one hx rfl).append (Fl.one hy rfl)) hg
end
def Few (n:Nat):Prop:=n<=100000
structure agc (g:aeS):Prop where
 name:Few g.name.length
 pts:Few g.points.length
 ends:Few g.ends.length
 parts:Few g.parts.length
 anch:Few g.anchors.length
 ae3:Few g.deltas.length
 hint:Few g.hint.length
structure afz (f:Fnt):Prop where
 big:afj f
 aeN:Few f.aeN.length
 chars:Few f.chars.length
 aeO:Few f.aeO.length
 aeX:Few f.features.length
 aeP:Few f.aeP.length
 regs:Few f.regions.length
 funcs:Few f.funcs.length
 cvt:Few f.cvt.length
 aeT:∀g∈f.aeN,agc g
 look:∀l∈f.aeO,Few l.rules.length
theorem Few.big {n:Nat}(h:Few n):Big n:=by unfold Few at h;unfold Big;omega
theorem Few.snoc {α:Type}{l:List α}(h:Few l.length)(y:α):Big (l++[y]).length:=by unfold Few at h;unfold Big;simp;omega
theorem agc.afI {g:aeS}(h:agc g):afZ g:=⟨h.name.big,h.pts.big,h.ends.big,h.parts.big,h.anch.big,h.ae3.big,h.hint.big⟩
theorem afj.afR {f:Fnt}(h:afj f)(i:Nat){x:aeS}(hx:afZ x):afj {f with aeN:=f.aeN.set i x} :=
 {h with
  aeN:=by simpa using h.aeN
  aeT:=fun g hg=>by
   rcases List.mem_or_eq_of_mem_set hg with hg|rfl
   ·exact h.aeT g hg
   exact hx}
theorem afj.agf {f:Fnt}(h:afj f)(i:Nat){x:Lookup}(hx:af6 x):afj {f with aeO:=f.aeO.set i x} :=
 {h with
  aeO:=by simpa using h.aeO
  look:=fun g hg=>by
   rcases List.mem_or_eq_of_mem_set hg with hg|rfl
   ·exact h.look g hg
   exact hx}
end
section
theorem Tf.ft {w:World}:∀b,Tf w b->FT w b:=fun _ ⟨_,t,h1,h2⟩=>by
 have key:∀t∈FO,t≠5/\t≠96:=by decide
 exact Be h1 (key t h2).1 (key t h2).2
theorem wC (w:World)(f:Fnt)(fc:List Value)(hT:Tabs w)(hG:nG<=w.heap.size)(hf:afe w (Tf w) fc f)(hm:afM f):
  Calls Tryd.prog 8 #[.agg fc.toArray] w fun e w'=>e= .returned (.string ⟨(gp f).toArray⟩)/\Below w.heap.size w w':=
 AX w f fc hT hG (afe.ok.mono hf Tf.ft) (fun g hg=>by
  have:=hm.small.aeN.2 g hg;exact⟨by have:=this.pts;omega,by have:=this.ends;omega⟩) (nt (RX hm.right hm.small) (by decide))
theorem oP {W W2 W4:World}{e:TypeId}{size n:Nat}{v:Value}{xs:List Value}(hb:Below W.heap.size W W2)(ho:W2.ownsRow W.heap.size e size v n xs)(hg:W2.grownBy W4 v.ownBlock):Below W.heap.size W W4:=hb.grown hg hb.size (fun g e=>(ho.lt g e).1)
theorem Xt (t:TypeId)(h:(Tryd.prog.info? t).map (·.size)=some 1)(s:ByteArray)(a:Addr)(w:World):(storeVar t a (.string s)).run Tryd.prog w=(store a (.string s)).run Tryd.prog w:=by
 have hz:=Du t h
 go_simp
theorem nm7 (k:Nat)(h:k<7):∃s:B,(#[.string ⟨#[]⟩,.string ⟨#[97,32,98]⟩,.string ⟨#[46,110,111,116,100,101,102]⟩,.string ⟨#[49,97]⟩,.string ⟨#[103,97]⟩,.string ⟨#[111,107,45,110,97,109,101]⟩,.string ⟨#[97,97,97,97,97,97,97,97,97,97,97,97,97,97,97,97,97]⟩]:Array Value)[k]? =some (.string ⟨s.toArray⟩)/\s.length<=17:=by
 have:k=0\/k=1\/k=2\/k=3\/k=4\/k=5\/k=6:=by omega
 rcases this with rfl|rfl|rfl|rfl|rfl|rfl|rfl<;>exact⟨_,rfl,by decide⟩
theorem iQ (w:World)(f:Fnt)(A1 A2 A3 A4 A5 A6 A7 A8:Option Addr)(c1 c2 c3 c4 c5 c6 c7 c8:Nat)(i0:I64 f.unit)(s1:Sl aeU 9 w (Tf w) A1 f.aeN)(s2:Sl afb 2 w (Tf w) A2 f.chars)(s3:Sl aeV 3 w (Tf w) A3 f.aeO)(s4:Sl aeW 2 w (Tf w) A4 f.features)(s5:Sl ae2 4 w (Tf w) A5 f.aeP)(s6:Sl aeY 1 w (Tf w) A6 f.regions)(s7:Sl ae1 1 w (Tf w) A7 f.funcs)(s8:Sl aeQ 1 w (Tf w) A8 f.cvt)(hS:afz f)(h0:0<f.aeN.length)(q0 q1 q2:Int):
  ∃(Wf Wq Wr Wg Wl W1:World) (G cg cl:Nat) (Al:Option Addr),w.alloc (.cells #[.int .i64 f.unit,.slice A1 f.aeN.length c1,.slice A2 f.chars.length c2,.slice A3 f.aeO.length c3,.slice A4 f.features.length c4,.slice A5 f.aeP.length c5,.slice A6 f.regions.length c6,.slice A7 f.funcs.length c7,.slice A8 f.cvt.length c8] eH)=Wf/\Wf.alloc (.cells #[.int .i64 q0,.int .i64 q1,.int .i64 q2] Rf)=Wq/\Wq.alloc (.cells #[.int .i64 0,.slice none 0 0,.slice none 0 0,.slice none 0 0,.slice none 0 0,.slice none 0 0,.slice none 0 0,.slice none 0 0,.slice none 0 0] eH)=Wr/\(Builtin.append_ #[24,24] 24 #[.slice (some ⟨Wr.heap.size,0,none⟩) 0 0,.slice A1 f.aeN.length c1]).run Tryd.prog (Wr.alloc (.cells #[] fE))= .ok (.slice (some ⟨G,0,none⟩) f.aeN.length cg) Wg/\(Builtin.append_ #[26,26] 26 #[.slice (some ⟨Wg.heap.size,0,none⟩) 0 0,.slice A3 f.aeO.length c3]).run Tryd.prog (Wg.alloc (.cells #[] fD))= .ok (.slice Al f.aeO.length cl) Wl/\(Wr.alloc (.cells #[] fE)).cell? ⟨w.heap.size,1,none⟩=some (.slice A1 f.aeN.length c1)/\(Wg.alloc (.cells #[] fD)).cell? ⟨w.heap.size,3,none⟩=some (.slice A3 f.aeO.length c3)/\Wl.frozen? ⟨w.heap.size,1,none⟩=false/\Wl.cell? ⟨w.heap.size,1,none⟩=some (.slice A1 f.aeN.length c1)/\(Wl.setCell ⟨w.heap.size,1,none⟩ (.slice (some ⟨G,0,none⟩) f.aeN.length cg)).frozen? ⟨w.heap.size,3,none⟩=false/\(Wl.setCell ⟨w.heap.size,1,none⟩ (.slice (some ⟨G,0,none⟩) f.aeN.length cg)).cell? ⟨w.heap.size,3,none⟩=some (.slice A3 f.aeO.length c3)/\Wr.cell? ⟨Wf.heap.size,2,none⟩=some (.int .i64 q2)/\Wl.cell? ⟨Wf.heap.size,1,none⟩=some (.int .i64 q1)/\W1.cell? ⟨Wf.heap.size,0,none⟩=some (.int .i64 q0)/\(Wl.setCell ⟨w.heap.size,1,none⟩ (.slice (some ⟨G,0,none⟩) f.aeN.length cg)).setCell ⟨w.heap.size,3,none⟩ (.slice Al f.aeO.length cl)=W1/\Hid (TC w W1 Wq.heap.size f ⟨some ⟨G,0,none⟩,cg,A2,c2,Al,cl,A4,c4,A5,c5,A6,c6,A7,c7,A8,c8⟩ G):=by
 obtain⟨Wf,hWf,hbf,bD⟩:=aB w eH #[.int .i64 f.unit,.slice A1 f.aeN.length c1,.slice A2 f.chars.length c2,.slice A3 f.aeO.length c3,.slice A4 f.features.length c4,.slice A5 f.aeP.length c5,.slice A6 f.regions.length c6,.slice A7 f.funcs.length c7,.slice A8 f.cvt.length c8];obtain⟨Wq,qh,hbq,hkq⟩:=aB Wf Rf #[.int .i64 q0,.int .i64 q1,.int .i64 q2];obtain⟨Wr,jW,hbr,hkr⟩:=aB Wq eH #[.int .i64 0,.slice none 0 0,.slice none 0 0,.slice none 0 0,.slice none 0 0,.slice none 0 0,.slice none 0 0,.slice none 0 0,.slice none 0 0];have wM:Below w.heap.size w Wr:=(hbf.trans (hbq.mono hbf.size)).trans (hbr.mono (hbf.trans (hbq.mono hbf.size)).size);have kf:Bk Wr w.heap.size eH #[.int .i64 f.unit,.slice A1 f.aeN.length c1,.slice A2 f.chars.length c2,.slice A3 f.aeO.length c3,.slice A4 f.features.length c4,.slice A5 f.aeP.length c5,.slice A6 f.regions.length c6,.slice A7 f.funcs.length c7,.slice A8 f.cvt.length c8]:=(bD.bel hbq).bel hbr;have kq:Bk Wr Wf.heap.size Rf #[.int .i64 q0,.int .i64 q1,.int .i64 q2]:=hkq.bel hbr;have rbl:w.heap.size<Wq.heap.size:=agN bD.lt hbq.size;have b1:=hS.aeN;have b2:=hS.aeO;unfold Few at b1 b2;obtain⟨Ag,cg,Wg,gc,hrun1,hog,hfg,hbg⟩:=gz (W:=Wr) One.aeT J5 (by decide) s1 (c:=c1) b1 wM;obtain⟨Al,cl,Wl,lc,hrun2,hol,hfl,hbl⟩:=gz (W:=Wg) One.look Qj (by decide) s3 (c:=c3) b2 (wM.trans (hbg.mono wM.size));have qO:Below Wr.heap.size Wr Wl:=hbg.trans (hbl.mono hbg.size);have Zn:Below w.heap.size w Wl:=wM.trans (qO.mono wM.size);obtain⟨G,iI,rfl,hG,hGb,hGc⟩:=CO hog (by exact h0) (by decide);have hGl:Bk Wl G fE iI:=hGb.bel hbl;have qA:(Wr.alloc (.cells #[] fE)).cell? ⟨w.heap.size,1,none⟩=some (.slice A1 f.aeN.length c1):=kf.at ((agE _ _).alloc (ai _) _) 1 rfl;have pU:(Wg.alloc (.cells #[] fD)).cell? ⟨w.heap.size,3,none⟩=some (.slice A3 f.aeO.length c3):=(kf.bel hbg).at ((agE _ _).alloc (ai _) _) 3 rfl;have pO:=(kf.bel qO).frozen 1;have pW:Wl.cell? ⟨w.heap.size,1,none⟩=some (.slice A1 f.aeN.length c1):=kf.at qO 1 rfl;have pV:(Wl.setCell ⟨w.heap.size,1,none⟩ (.slice (some ⟨G,0,none⟩) f.aeN.length cg)).cell? ⟨w.heap.size,3,none⟩=some (.slice A3 f.aeO.length c3):=(((kf.bel qO).set 1 (.slice (some ⟨G,0,none⟩) f.aeN.length cg)).cell 3).trans rfl;have fz3:(Wl.setCell ⟨w.heap.size,1,none⟩ (.slice (some ⟨G,0,none⟩) f.aeN.length cg)).frozen? ⟨w.heap.size,3,none⟩=_:=((kf.bel qO).set 1 (.slice (some ⟨G,0,none⟩) f.aeN.length cg)).frozen 3;have j2:=kq.cell 2;have j1:=kq.at qO 1 rfl;obtain⟨W1,hW1⟩:∃x,(Wl.setCell ⟨w.heap.size,1,none⟩ (.slice (some ⟨G,0,none⟩) f.aeN.length cg)).setCell ⟨w.heap.size,3,none⟩ (.slice Al f.aeO.length cl)=x:=⟨_,rfl⟩
 have j0:W1.cell? ⟨Wf.heap.size,0,none⟩=some (.int .i64 q0):=by
  have hne:Wf.heap.size≠w.heap.size:=by have:=bD.lt;omega
  rw[<-hW1];exact(((kq.bel qO).far (p:=⟨w.heap.size,1,none⟩) hne _).far (p:=⟨w.heap.size,3,none⟩) hne _).cell 0
 have HT:Hid (TC w W1 Wq.heap.size f ⟨some ⟨G,0,none⟩,cg,A2,c2,Al,cl,A4,c4,A5,c5,A6,c6,A7,c7,A8,c8⟩ G):=by
  have hz:=Zn.size;have zq:=hbr.size;have hGn:G≠w.heap.size:=by have:=wM.size;have:=kf.lt;omega
  have zr:=hkr.lt;have hbox:=((kf.bel qO).set 1 (.slice (some ⟨G,0,none⟩) f.aeN.length cg)).set 3 (.slice Al f.aeO.length cl);have hn:∀(v:World) (j:Nat) (u:Value),Bk v w.heap.size eH #[.int .i64 f.unit,.slice A1 f.aeN.length c1,.slice A2 f.chars.length c2,.slice A3 f.aeO.length c3,.slice A4 f.features.length c4,.slice A5 f.aeP.length c5,.slice A6 f.regions.length c6,.slice A7 f.funcs.length c7,.slice A8 f.cvt.length c8]\/True->Sp w.heap.size eH v v:=fun v _ _ _=>Sp.below (agE _ _)
  have hl1:(Wl.setCell ⟨w.heap.size,1,none⟩ (.slice (some ⟨G,0,none⟩) f.aeN.length cg)).ownsRow Wg.heap.size fD 3 (.slice Al f.aeO.length cl) f.aeO.length lc:=(Sp.set (kf.bel qO) (ai _) 1 _).own hol (by decide);have hl2:W1.ownsRow Wg.heap.size fD 3 (.slice Al f.aeO.length cl) f.aeO.length lc:=by rw[<-hW1];exact(Sp.set ((kf.bel qO).set 1 _) (ai _) 3 _).own hl1 (by decide)
  refine⟨?_,rbl,?_,?_,rfl,by omega,⟨gc,iI,?_,hGc,hfg⟩,⟨lc,⟨hl2.1,?_⟩,hfl⟩,i0,s2,s4,s5,s6,s7,s8⟩
  ·rw[<-hW1];exact(Zn.setCell (ai _) _).setCell (ai _) _
  ·rw[<-hW1];simpa [Fp.cl] using hbox
  ·rw[<-hW1];exact(((hkr.bel qO).far (p:=⟨w.heap.size,1,none⟩) (Nat.ne_of_gt rbl) _).far (p:=⟨w.heap.size,3,none⟩) (Nat.ne_of_gt rbl) _)
  ·rw[<-hW1];exact(hGl.far (p:=⟨w.heap.size,1,none⟩) hGn _).far (p:=⟨w.heap.size,3,none⟩) hGn _
  have hgz:w.heap.size<=Wg.heap.size:=(wM.trans (hbg.mono wM.size)).size;rcases hl2.2 with h|⟨g,cap,cur,h1,h2,h3⟩
  ·exact .inl h
  exact .inr ⟨g,cap,cur,h1,by omega,h3⟩
 exact⟨Wf,Wq,Wr,Wg,Wl,W1,G,cg,cl,Al,hWf,qh,jW,hrun1,hrun2,qA,pU,pO,pW,fz3,pV,j2,j1,j0,hW1,HT⟩
attribute [-go_sem] Builtin.append_
attribute [-go_sem] storeVar
theorem xh (w:World)(f:Fnt)(A1 A2 A3 A4 A5 A6 A7 A8:Option Addr)(c1 c2 c3 c4 c5 c6 c7 c8:Nat)(i0:I64 f.unit)(s1:Sl aeU 9 w (Tf w) A1 f.aeN)(s2:Sl afb 2 w (Tf w) A2 f.chars)(s3:Sl aeV 3 w (Tf w) A3 f.aeO)(s4:Sl aeW 2 w (Tf w) A4 f.features)(s5:Sl ae2 4 w (Tf w) A5 f.aeP)(s6:Sl aeY 1 w (Tf w) A6 f.regions)(s7:Sl ae1 1 w (Tf w) A7 f.funcs)(s8:Sl aeQ 1 w (Tf w) A8 f.cvt)(hS:afz f)(h0:0<f.aeN.length)(q0 q1 q2:Int)(hq:(q0.tmod 16+16).tmod 16=0\/(q0.tmod 16+16).tmod 16=1\/(q0.tmod 16+16).tmod 16=2):Calls Tryd.prog 7 #[.agg #[.int .i64 f.unit,.slice A1 f.aeN.length c1,.slice A2 f.chars.length c2,.slice A3 f.aeO.length c3,.slice A4 f.features.length c4,.slice A5 f.aeP.length c5,.slice A6 f.regions.length c6,.slice A7 f.funcs.length c7,.slice A8 f.cvt.length c8],.agg #[.int .i64 q0,.int .i64 q1,.int .i64 q2]] w (jF w):=by
 obtain⟨Wf,Wq,Wr,Wg,Wl,W1,G,cg,cl,Al,hWf,qh,jW,hrun1,hrun2,qA,pU,pO,pW,fz3,pV,j2,j1,j0,hW1,HT⟩:=iQ w f A1 A2 A3 A4 A5 A6 A7 A8 c1 c2 c3 c4 c5 c6 c7 c8 i0 s1 s2 s3 s4 s5 s6 s7 s8 hS h0 q0 q1 q2;have b1:=hS.aeN;have b2:=hS.aeO;unfold Few at b1 b2;have HS:=hd0 hS;have vg:=aO 24 (by kernel_rfl);have vl:=aO 26 (by kernel_rfl);obtain⟨r2,ha2,hr2,hr2'⟩:=aU q2 100 (by omega);obtain⟨nn,hn2,nM⟩:=aH (r2+(100:Nat)) 100 (by omega) (by omega);obtain⟨r1,ha1,hr1,hr1'⟩:=aU q1 f.aeN.length h0;obtain⟨i,hi1,hin⟩:=aH (r1+f.aeN.length) f.aeN.length h0 (by omega);have hK:0<f.aeO.length->∃(r:Int) (k:Nat),q1.tmod (f.aeO.length:Int)=r/\ -(f.aeO.length:Int)<r/\r<f.aeO.length/\(r+f.aeO.length).tmod (f.aeO.length:Int)=(k:Int)/\k<f.aeO.length:=fun hp=>by
  obtain⟨r,ha,hb,hc⟩:=aU q1 f.aeO.length hp;obtain⟨k,hd,he⟩:=aH (r+f.aeO.length) f.aeO.length hp (by omega);exact⟨r,k,ha,hb,hc,hd,he⟩
 have HK:=hd0 hK;have bn:decide ((0:Int)<(f.aeN.length:Int))=true:=decide_eq_true (by omega);have ja:((100:Nat):Int)=100:=rfl;rw[ja] at ha2 hn2;clear hS hK ja i0 s1 s2 s3 s4 s5 s6 s7 s8;obtain⟨mm,hmm⟩:∃m:Int,(q0.tmod 16+16).tmod 16=m:=⟨_,rfl⟩
 rw[hmm] at hq;obtain⟨r0,hr0⟩:∃r:Int,q0.tmod 16=r/\ -16<r/\r<16:=aU q0 16 (by omega);obtain⟨ha0,hr1',vk⟩:=hr0;rw[ha0] at hmm;go_enter Tryd.func7,Tryd.ntmps7
 go_upto_if 39 with fail
 try clear hWf
 try clear qh
 try clear jW
 clear qA pU hrun1 hrun2 j2 ha2 hi1 ha1 bn;go_cut [9] from 40 to 50 (fun v wx=>∃k:Nat,v= .int .i64 k/\(0<f.aeO.length->k<f.aeO.length)/\Wl=wx)
 case first=>
  by_cases hp:0<f.aeO.length
  ·obtain⟨r,k,e1,e2,e3,e4,e5⟩:=HK.out hp;have bp:decide ((0:Int)<(f.aeO.length:Int))=true:=decide_eq_true (by omega);go_wp2_with fail
   go_meet
   exact⟨k,rfl,fun _=>e5,rfl⟩
  have bp:decide ((0:Int)<(f.aeO.length:Int))=false:=decide_eq_false (by omega);go_wp2_with fail
  go_meet
  exact⟨0,rfl,fun h=>absurd h hp,rfl⟩
 case rest=>
 obtain⟨k,rfl,hkl,rfl⟩:=hcut;clear HK j1
 go_upto_block 0 with fail
 try rw[hW1]
 clear vg vl hW1 pO fz3 pW pV j0 ha0 hmm;go_cut [] from 60 to 374 (fun wx=>∃(g:Fnt) (cs:List Value),TD w wx Wq.heap.size cs g/\afj g)
 case first=>
  have wP:=HT.out.low.size;have lC:Hid (Below w.heap.size w W1):=hd0 HT.out.low;obtain⟨x,D3,d3,D4,d4,D5,d5,D6,d6,D7,d7,D8,d8,hx,l4,l5,l6,l7,l8,hgr,t4,t5,t6,t7,t8⟩:=HT.out.aeT hin;have HX:=hd0 (HS.out.aeT x (agM hx.out));have vY:G<W1.heap.size:=by obtain⟨gc,iI,h1,-⟩:=HT.out.gB;exact h1.lt
  have T4:=hd0 t4;have T5:=hd0 t5;have T6:=hd0 t6;have T7:=hd0 t7;have T8:=hd0 t8;have bn:decide ((0:Int)<(f.aeN.length:Int))=true:=decide_eq_true (by omega);clear hgr t4 t5 t6 t7 t8;rcases hq with rfl|rfl|rfl
  ·have htd:=HT.out.td.field 0 (.int .i64 ((nn:Int)*50)) (g':= {f with unit:=(nn:Int)*50}) (by
    obtain⟨B1,d1,B2,d2,B3,e3,B4,e4,B5,e5,B6,e6,B7,e7,B8,e8,e,i0,r⟩:=HT.out.td.fnt;rw[e];exact⟨B1,d1,B2,d2,B3,e3,B4,e4,B5,e5,B6,e6,B7,e7,B8,e8,rfl,⟨by show _<=(nn:Int)*50;omega,by show(nn:Int)*50<=_;omega⟩,r⟩)
   have gu:=hd0 htd;have iD:Hid (afj {f with unit:=(nn:Int)*50}):=hd0 {HS.out.big with};have hfz:W1.frozen? ⟨w.heap.size,0,none⟩=_:=HT.out.box.frozen 0;have qP:W1.cell? ⟨w.heap.size,0,none⟩=some (.int .i64 f.unit):=HT.out.box.cell 0;have sv:=Bq 3 (by kernel_rfl);clear htd;go_wp2_with fail
   go_meet
   exact⟨_,_,gu.out,iD.out⟩
  ·obtain⟨y7,y7e,y7l⟩:=aH (nn:Int) 7 (by omega) (by omega);rw[show((7:Nat):Int)=7 from rfl] at y7e;obtain⟨nm,hnm,hnl⟩:=nm7 y7 y7l;have hld:(W1.alloc (.cells #[.string ⟨#[]⟩,.string ⟨#[97,32,98]⟩,.string ⟨#[46,110,111,116,100,101,102]⟩,.string ⟨#[49,97]⟩,.string ⟨#[103,97]⟩,.string ⟨#[111,107,45,110,97,109,101]⟩,.string ⟨#[97,97,97,97,97,97,97,97,97,97,97,97,97,97,97,97,97]⟩] 9)).cell? ⟨W1.heap.size,y7,none⟩=some (.string ⟨nm.toArray⟩):=((Bk.new W1 _ _).cell y7).trans hnm;have hb2:=(agE W1.heap.size W1).alloc (ai _) (.cells #[.string ⟨#[]⟩,.string ⟨#[97,32,98]⟩,.string ⟨#[46,110,111,116,100,101,102]⟩,.string ⟨#[49,97]⟩,.string ⟨#[103,97]⟩,.string ⟨#[111,107,45,110,97,109,101]⟩,.string ⟨#[97,97,97,97,97,97,97,97,97,97,97,97,97,97,97,97,97]⟩] 9);obtain⟨⟨vo,qP⟩,hfz⟩:=(HT.out.below hb2).afL (k:=0) hin (by decide);simp only[Nat.add_zero] at qP hfz;have gu:=hd0 ((HT.out.afU hx.out (k:=0) (by decide) (.string ⟨nm.toArray⟩) (fun cs hcs=>hcs.agr nm)).below ((agE _ _).alloc (ai _) (.cells #[.string ⟨#[]⟩,.string ⟨#[97,32,98]⟩,.string ⟨#[46,110,111,116,100,101,102]⟩,.string ⟨#[49,97]⟩,.string ⟨#[103,97]⟩,.string ⟨#[111,107,45,110,97,109,101]⟩,.string ⟨#[97,97,97,97,97,97,97,97,97,97,97,97,97,97,97,97,97]⟩] 9)));have iD:=hd0 (HS.out.big.afR i (x:= {x with name:=nm}) {HX.out.afI with name:=by show nm.length<=_;omega});have sv:=Xt 9 (by kernel_rfl);clear hb2 hnm l4 l5 l6 l7 l8;go_wp2_with fail
   go_meet
   exact⟨_,_,gu.out,iD.out⟩
  obtain⟨⟨vo,qP⟩,hfz⟩:=HT.out.afL (k:=1) hin (by decide);have gu:=hd0 (HT.out.afU hx.out (k:=1) (by decide) (.int .i64 (((nn:Int) - 10)*300)) (fun cs hcs=>hcs.agv _ ⟨by omega,by omega⟩));have sv:=Bq 3 (by kernel_rfl);have iD:=hd0 (HS.out.big.afR i (x:= {x with advance:=((nn:Int) - 10)*300}) {HX.out.afI with});clear l4 l5 l6 l7 l8;go_wp2_with fail
  go_meet
  exact⟨_,_,gu.out,iD.out⟩
 case rest=>
 obtain⟨g,cs,hT,hB⟩:=hcut;obtain⟨hst,hbk,hsz,hpo⟩:=hT.fin hB;have gV:=hd0 hbk;have qi:=hd0 hsz;have rH:=hd0 hpo;have fM:=hd0 hT.box;obtain⟨B1,e1,B2,e2,B3,e3,B4,e4,B5,e5,B6,e6,B7,e7,B8,e8,rfl,-⟩:=hT.fnt;obtain⟨k0,k1,k2,k3,k4,k5,k6,k7,k8⟩:=nine fM.out (agE _ _);clear hbk hsz hpo hT hB HT HS;go_wp2_with fail
 exact bodyPost_ret (fC gV.out qi.out) rfl rH.out
end
end Go.Proofs.YtkijckccfookeaaDoor
