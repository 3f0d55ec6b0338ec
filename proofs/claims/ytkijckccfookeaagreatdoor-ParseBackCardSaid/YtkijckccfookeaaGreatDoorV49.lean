/- A row's beginning, 'l[:k]'. -/
import Derived.Test.YtkijckccfookeaaGreatDoorMkM
set_option linter.unusedVariables false
set_option linter.unusedSimpArgs false
set_option maxRecDepth 100000
set_option maxHeartbeats 32000000
namespace Go.Proofs.YtkijckccfookeaaGreatDoor
open Go.RowKit
theorem adQ {T E size:Nat}(hT:Tryz.prog.underlying T=some (.slice E))(hs:∀w,(sizeOf E).run Tryz.prog w= .ok size w)(A:Option Addr)(n c k:Nat)(z:Int)(hz:z=(k:Int))(hk:k<=c)(w:World):
  (Instr.slice T (.slice A n c) none (some (.int .i64 z)) none).run Tryz.prog w= .ok (.slice (if c=0 then A else A.map (·.add 0)) k c) w:=by
 subst hz;simp[Instr.slice,Instr.sliceBounds,Instr.sliceBound,asIntOf,run_underlying hT,hs,Result.andThen,hk]
theorem Rd.pre {w:World}{B:Nat}{A:Option Addr}{n c k:Nat}{zs:List Int}(h:Rd w B A n 1 (aP zs))(hk:k<=n)(hc:n<=c):Rd w B (if c=0 then A else A.map (·.add 0)) k 1 (aP (zs.take k)):=by
 have hl:=h.1;simp only[aP,aqs] at hl;refine⟨by simp only[aP,aqs,aqH];omega,fun h0=> ?_⟩;obtain⟨b,o,rfl,hb,hr⟩:=h.2 (by omega);rw[if_neg (by omega)];refine⟨b,o,rfl,hb,fun j u hu=>hr j u ?_⟩;simp only[aP,List.map_take,aqP] at hu;split at hu
 ·exact hu
 cases hu
attribute [-go_sem] storeVar
theorem Nl {W:World}{g:Nat}{cs:Array Value}{tmps:Array Value}(hb:W.heap[g]? =some (.cells cs oZ (0,0)))(hsz:cs.size=9)(h2:tmps.getD 2 undef= .pointer (some ⟨g,0,none⟩):=by rfl):(results Tryz.f23 tmps).run Tryz.prog W= .ok (.agg cs) W:=by rw[qo (fn:=Tryz.f23) (p:=2) (ty:=oZ) rfl,h2];have:=run_loadVar_row (P:=Tryz.prog) W g oZ oZ cs (0,0) _ hb Tryz.underlying32 rfl (by rw[Ht,hsz]);simp[asAddr,Result.andThen,this]
theorem EU (w:World)(A:Option Addr)(n c:Nat)(zs:List Int)(hc:n<=c)(hr:Rd w w.heap.size A n 1 (aP zs))(hz:∀z∈zs,I64 z):Calls Tryz.prog 23 #[.slice A n c] w (zC w):=by
 have hs:=adQ (size:=1) (T:=22) (E:=3) Tryz.underlying22 (by intro w;kernel_rfl) A n c (min n 300) (min (n:Int) 300) (by omega) (by omega);have hrp:=hd0 (hr.pre (c:=c) (Nat.min_le_left n 300) hc);have hzp:=hd0 (fun z (h:z∈zs.take (min n 300))=>hz z (List.mem_of_mem_take h));clear hr hz;obtain⟨A',hA⟩:∃A',(if c=0 then A else A.map (·.add 0))=A':=⟨_,rfl⟩
 rw[hA] at hs hrp;clear hA;go_enter Tryz.func23,Tryz.ntmps23
 go_wp2_with fail
 obtain⟨W1,hW1⟩:∃W1,w.alloc (.cells zeroFn oZ)=W1:=⟨_,rfl⟩
 change Calls _ _ _ (w.alloc (.cells zeroFn oZ)) _;rw[hW1];have hb1:Below w.heap.size w W1:=by rw[<-hW1];exact(aqk _ _).alloc (ag _) _
 have hk1:Bk W1 w.heap.size oZ zeroFn:=by rw[<-hW1];exact Bk.new _ _ _
 have hz1:w.heap.size<W1.heap.size:=hk1.lt;clear hW1;have aeZ:Rd W1 W1.heap.size A' (min n 300) 1 (aP (zs.take (min n 300))):=(hrp.out.below hb1 (ag _)).mono hb1.size;refine(XM W1 A' (min n 300) c (zs.take (min n 300)) aeZ hzp.out (by omega)).mono ?_;rintro e w' ⟨f,fc,h1,rfl,h2,h3⟩;have H1:=hd0 h1;have MC:Bk w' w.heap.size oZ zeroFn:=(h3.block _ hz1).trans hk1;have hsz:fc.length=9:=by obtain⟨A1,c1,A2,c2,A3,c3,A4,c4,A5,c5,A6,c6,A7,c7,A8,c8,rfl,-⟩:=h2;rfl
 have hone:(fc.toArray.all fun x=>x.oneCell')=true:=by obtain⟨A1,c1,A2,c2,A3,c3,A4,c4,A5,c5,A6,c6,A7,c7,A8,c8,rfl,-⟩:=h2;simp[Value.oneCell']
 have hst:=run_storeVar_row (P:=Tryz.prog) w' w.heap.size oZ oZ zeroFn fc.toArray MC (by rw[Ht,List.size_toArray,hsz]) (by simp[zeroFn,hsz]) hone;have U2:=setRow_heap w' w.heap.size zeroFn fc.toArray oZ (0,0) MC;have heq:∀b,b≠w.heap.size->(w'.setRow w.heap.size fc.toArray).heap[b]? =w'.heap[b]? :=fun b hb=>setRow_other w' w.heap.size b _ hb
 have hne:∀b,Tf w' b->b≠w.heap.size:=by rintro b ⟨cs,t,hk,ht⟩ rfl;have:=(bY hk MC).1;subst this;exact absurd ht (by decide)
 have hfE:an4 (w'.setRow w.heap.size fc.toArray) (Tf (w'.setRow w.heap.size fc.toArray)) fc f:=an4.ok.mono (an4.ok.keep h2 (fun b hb=>heq b (hne b hb))) (fun b hb=>by
  obtain⟨cs,t,hk,ht⟩:=hb;exact⟨cs,t,(heq b (hne b ⟨cs,t,hk,ht⟩)).trans hk,ht⟩)
 have hbw:Below w.heap.size w (w'.setRow w.heap.size fc.toArray):=(hb1.trans (h3.mono (by omega))).trans ⟨rfl,rfl,rfl,by simp,fun b hb=>heq b (by omega)⟩;generalize w'.setRow w.heap.size fc.toArray=wE at*
 have Gz:Hid (zC w (.returned (.agg fc.toArray)) wE):=hd0 ⟨f,fc,H1.out,rfl,hfE,hbw⟩;have HBE:=hd0 U2;have Xz:Hid (fc.toArray.size=9):=hd0 (by simpa using hsz);clear U2 hbw hfE hne heq h1 h2 h3 MC hone aeZ hk1 hb1 hs hsz;go_wp2_with fail
 exact bodyPost_ret (Nl HBE.out Xz.out) rfl Gz.out
end Go.Proofs.YtkijckccfookeaaGreatDoor
