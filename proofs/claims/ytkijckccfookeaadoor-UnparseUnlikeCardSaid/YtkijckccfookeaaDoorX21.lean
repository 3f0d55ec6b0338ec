/- Lemmas. -/
import Derived.Test.YtkijckccfookeaaDoorMkPiece
import Derived.Test.YtkijckccfookeaaDoorX19
set_option linter.unusedVariables false
set_option linter.unusedSimpArgs false
set_option maxRecDepth 100000
set_option maxHeartbeats 32000000
namespace Go.Proofs.YtkijckccfookeaaDoor
section
open Go.RowKit
theorem Vg {α:Type}{R:Rel α}{size:Nat}{w:World}{S:Bs}{c c':List Value}{xs:List α}(hdet:∀cs cs' x,R w S cs x->R w S cs' x->cs=cs')(h:Fl R size w S c xs)(h':Fl R size w S c' xs)(hs:0<size):c=c':=by
 apply List.ext_getElem?;intro i;by_cases hi:i<xs.length*size
 ·have hk:i / size<xs.length:=by
   rw[Nat.div_lt_iff_lt_mul hs];exact hi
  have hx:xs[i / size]? =some xs[i / size]:=agH hk;obtain⟨cs,r1,l1,g1⟩:=h.2 _ _ hx;obtain⟨cs',r2,l2,g2⟩:=h'.2 _ _ hx;obtain rfl:=hdet _ _ _ r1 r2;have hj:i % size<cs.length:=by rw[l1];exact Nat.mod_lt _ hs
  have hu:cs[i % size]? =some cs[i % size]:=agH hj;have e:i / size*size+i % size=i:=by rw[Nat.mul_comm];exact Nat.div_add_mod i size
  have a:=g1 _ _ hu;have b:=g2 _ _ hu;rw[e] at a b;rw[a,b]
 rw[ag2 (by rw[h.1];omega),ag2 (by rw[h'.1];omega)]
theorem UJ {w:World}{S:Bs}{c:List Value}{xs:List Ins}(h:Fl ae9 2 w S c xs):c=jb xs:=
 Vg (fun _ _ _ a b=>a.1.trans b.1.symm) h (Dw w S xs (fun i hi=>by
  obtain⟨k,hk⟩:=agX.1 hi;obtain⟨cs,r,-⟩:=h.2 k i hk;exact r.2)) (by omega)
theorem UH {w:World}{ts:List TypeId}{b:Nat}{A:Option Addr}{xs:List Ins}(h:Sl ae9 2 w (TS ts b w) A xs):Rd w w.heap.size A xs.length 2 (jb xs):=by
 obtain⟨c,h1,h2⟩:=h.rdM TS.lt
 rwa [UJ h1] at h2
theorem Vf {a b:List Ins}(h:jr a)(k:jr b):jr (a++b):=fun x hx=>by
 rw[agJ] at hx;rcases hx with hx|hx
 ·exact h x hx
 exact k x hx
theorem Js (w:World)(m:Nat)(fs:Nat->Value)(lp:Int)(n fu mo:Nat)(h:Mk w m fs lp)(hlp:0<=lp/\lp<=10)(hn:n<=1000)(hfu:fu<=1000)(hm1:1<=mo)(rf:mo<=6):Calls Tryd.prog 37 #[.pointer (some ⟨m,0,none⟩),.int .i64 n,.int .i64 fu,.int .i64 mo] w (wI w m fs 45):=by
 have hmw:=h.lt;have H:=hd0 h;have HL:=hd0 hlp;clear h hlp;go_enter Tryd.func37,Tryd.ntmps37
 go_wp2_with fail
 refine(ay w m fs lp mo H.out hm1 (by omega)).mono ?_;rintro e w1 ⟨x,hx,rfl,hk1,hv1⟩;have H1:=hd0 hk1;have V1:=hd0 hv1;clear hk1 hv1 H;go_wp2_with fail
 go_loopw [9,11] (fun o i wr=>∃(k:Nat) (p:List Ins) (A:Option Addr) (c:Nat) (l:Int),k<=x/\i= .int .i64 k/\o= .slice A p.length c/\wr.ownsRow w.heap.size kN 2 (.slice A p.length c) p.length (jb p)/\Hid (jr p/\p.length<=9*k/\0<=l/\l<=10)/\Hid (Mk wr m fs l)/\Hid (Mv m w wr)) (fun _ i _=>x - (intOf i).toNat)
 case atStart=>exact⟨0,[],none,0,lp,nz _,rfl,rfl,World.ownsRow_nil _ _ _ _,hd0 ⟨fJ,by simp,HL.out⟩,H1,V1⟩
 case round=>
  obtain⟨wa,rfl⟩:∃x,x=wr:=⟨_,rfl⟩
  obtain⟨k,p,A,c,l,hk,rfl,rfl,ho,hp,HM,HV⟩:=hrel;have HO:=hd0 ho;have hpl:p.length<=100:=by have:=hp.out.2.1;omega
  have hz:=HV.out.size;clear ho;by_cases hlt:k<x
  ·go_wp2_with fail
   refine(SK wa m fs l n fu HM.out hp.out.2.2 hn hfu).mono ?_;rintro e w2 ⟨q,A2,c2,l2,hq,uC,hl2,rfl,hqc,hs2,hm2,hv2⟩;have hO2:=(Sp.next HM.out hv2).own HO.out (by decide);have hR2:=UH hs2;have rC:=eu HV.out hv2;have hz2:=rC.size;have pX:=hd0 hm2;have JD:=hd0 rC;clear hs2 hm2 hv2 rC;go_wp2_with (at_builtin;refine Fh LG rfl (.tmp 20) (.tmp 24) rfl w2 w.heap.size p.length c A (jb p) w2.heap.size A2 q.length c2 (jb q) rfl rfl hO2 hR2 (Pq q) (by omega) hz2 ?_;intro A5 c5 w5 h5 g5 l5;have rP:=hd0 h5;have rY:=hd0 g5;clear h5 g5 l5)
   have Hl:=hd0 ((Sp.push hO2 (show m<=w.heap.size by omega) rY.out).mk pX.out (by decide));have HV5:=hd0 (jl JD.out hO2 (ai _) rY.out);have Gn:Hid (w5.ownsRow w.heap.size kN 2 (.slice A5 (p++q).length c5) (p++q).length (jb (p++q))):=(by rw[la,Ol];exact rP.out)
   have IB:Hid (jr (p++q)/\(p++q).length<=9*(k+1)/\0<=l2/\l2<=10):=hd0 ⟨Vf hp.out.1 hq,by rw[la];have:=hp.out.2.1;omega,hl2⟩;go_roundw
   case rel=>exact⟨k+1,p++q,A5,c5,l2,by omega,by simp,by simp,Gn.out,IB,Hl,HV5⟩
   case measure=>simp[intOf];omega
  go_wp2_with fail
  go_ret
  exact⟨p,A,c,l,hp.out.1,by have:=hp.out.2.1;omega,hp.out.2.2,rfl,UU HO.out,cZ HO.out (Dw _ _ p (KA hp.out.1)) (by simp) (ai _) (by omega),HM.out,HV.out⟩
def Ze (w:World)(m:Nat)(fs:Nat->Value)(lp:Int)(G:Nat)(e:Ending)(w':World):Prop:=∃(s:List Int) (A:Option Addr) (c:Nat),afv G s/\1<=s.length/\e= .returned (.slice A s.length c)/\Sl aeQ 1 w' (TS [aF] w.heap.size w') A s/\Mk w' m fs lp/\Mv m w w'
theorem In.i64 {G:Nat}(hG:G<=1000){n:Int}(h:In G n):I64 n:=by obtain⟨a,b⟩:=h;unfold I64;omega
theorem mX (w:World)(m:Nat)(fs:Nat->Value)(lp:Int)(G:Nat)(Ag:Option Addr)(cg:Nat)(h:Mk w m fs lp)(hf:fs 1= .slice Ag G cg)(h1:1<=G)(hG:G<=1000):Calls Tryd.prog 88 #[.pointer (some ⟨m,0,none⟩)] w (Ze w m fs lp G):=by
 have hmw:=h.lt;have qg:w.cell? ⟨m,3,none⟩=some (.slice Ag G cg):=by have:=h.cells.1 1 (by omega);rw[hf] at this;exact this
 have H:=hd0 h;clear h hf;go_enter Tryd.func88,Tryd.ntmps88
 go_wp2_with fail
 refine(ay w m fs lp G H.out h1 (by omega)).mono ?_;rintro e w1 ⟨a,ha,rfl,hk1,hv1⟩;have H1:=hd0 hk1;have V1:=hd0 hv1;clear hk1 hv1 H qg;go_wp2_with fail
 go_loopw [5,6] (fun o i wr=>∃(k:Nat) (s:List Int) (A:Option Addr) (c:Nat),k<=G/\i= .int .i64 k/\o= .slice A s.length c/\s.length<=4/\wr.ownsRow w.heap.size aF 1 (.slice A s.length c) s.length (aN s)/\Hid (afv G s/\1<=s.length/\∀x∈s,x<k)/\Hid (Mk wr m fs lp)/\Hid (Mv m w wr)) (fun _ i _=>G - (intOf i).toNat)
 case atStart=>have hb:Below w1.heap.size w1 (w1.alloc (.cells #[.int .i64 a] aF)):=(agE _ _).alloc (ai _) _;refine⟨a+1,[(a:Int)],some ⟨w1.heap.size,0,none⟩,1,by omega,by simp,rfl,by simp,?_,hd0 ⟨afv.one ⟨by omega,by omega⟩,by simp,fun x hx=>by simp only[agF] at hx;omega⟩,hd0 (H1.out.below hb),hd0 (iW V1.out hb)⟩;exact qM w1 w.heap.size aF 1 1 #[.int .i64 a] V1.out.size rfl (by omega)
 case round=>
  obtain⟨wa,rfl⟩:∃x,x=wr:=⟨_,rfl⟩
  obtain⟨k,s,A,c,hk,rfl,rfl,hs4,ho,hs,HM,HV⟩:=hrel;have HO:=hd0 ho;clear ho;by_cases hlt:k<G
  ·by_cases hl4:s.length<4
   ·go_wp2_with fail
    refine(ay wa m fs lp 3 HM.out (by omega) (by omega)).mono ?_;rintro e w2 ⟨y,hy,rfl,hm2,hv2⟩;have hO2:=(Sp.next HM.out hv2).own HO.out (by decide);have pX:=hd0 hm2;have rC:=eu HV.out hv2;have hz2:=rC.size;have JD:=hd0 rC;clear hm2 hv2 rC;by_cases hy0:y=0
    ·have e0:((y:Int)==0)=true:=by simp;omega
     have HS2:Hid (afv G (s++[(k:Int)])/\1<=(s++[(k:Int)]).length/\∀x∈s++[(k:Int)],x<((k+1:Nat):Int)):=hd0 ⟨hs.out.1.snoc ⟨by omega,by omega⟩ hs.out.2.2 hl4,by simp,fun x hx=>by
      rw[agJ,agF] at hx;rcases hx with hx|rfl
      ·have:=hs.out.2.2 x hx;omega
      omega⟩
     clear hy0;go_wp2_with (at_builtin;refine wR ku rfl (.tmp 33) (.tmp 35) rfl w2 w2.heap.size rfl w.heap.size s.length c A (aN s) #[.int .i64 k] rfl rfl rfl hO2 (by simp[Value.oneCell']) (by omega) hz2 ?_;intro A5 c5 w5 h5 g5 l5;have rP:=hd0 h5;have rY:=hd0 g5;clear h5 g5 l5)
     have Hl:=hd0 ((Sp.push hO2 (show m<=w.heap.size by omega) rY.out).mk pX.out (by decide));have HV5:=hd0 (jl JD.out hO2 (ai _) rY.out);have Gn:Hid (w5.ownsRow w.heap.size aF 1 (.slice A5 (s++[(k:Int)]).length c5) (s++[(k:Int)]).length (aN (s++[(k:Int)]))):=hd0 (by simpa [aN,cI] using rP.out);go_roundw
     case rel=>exact⟨k+1,s++[(k:Int)],A5,c5,by omega,by simp,by simp,by simp;omega,Gn.out,HS2,Hl,HV5⟩
     case measure=>simp[intOf];omega
    have e0:((y:Int)==0)=false:=by simp;omega
    have BQ:=hd0 hO2;have HS2:Hid (afv G s/\1<=s.length/\∀x∈s,x<((k+1:Nat):Int)):=hd0 ⟨hs.out.1,hs.out.2.1,fun x hx=>by have:=hs.out.2.2 x hx;omega⟩;clear hy0 hO2;go_wp2_with fail
    go_roundw
    case rel=>exact⟨k+1,s,A,c,by omega,by simp,rfl,hs4,BQ.out,HS2,pX,JD⟩
    case measure=>simp[intOf];omega
   go_wp2_with fail
   go_ret
   exact⟨s,A,c,hs.out.1,hs.out.2.1,rfl,cZ HO.out (iF _ _ s (fun n hn=>In.i64 hG (hs.out.1.set.2 n hn))) (by simp) (ai _) (by omega),HM.out,HV.out⟩
  go_wp2_with fail
  go_ret
  exact⟨s,A,c,hs.out.1,hs.out.2.1,rfl,cZ HO.out (iF _ _ s (fun n hn=>In.i64 hG (hs.out.1.set.2 n hn))) (by simp) (ai _) (by omega),HM.out,HV.out⟩
abbrev tRow:TypeId:=22
def SQ (w:World)(m:Nat)(fs:Nat->Value)(lp:Int)(G:Nat)(e:Ending)(w':World):Prop:=∃(s:List (List Int)) (A:Option Addr) (c:Nat),aeZ G 2 s/\e= .returned (.slice A s.length c)/\Sl aeR 1 w' (TS [aF,tRow] w.heap.size w') A s/\Mk w' m fs lp/\Mv m w w'
theorem fH (w:World)(m:Nat)(fs:Nat->Value)(lp:Int)(G:Nat)(Ag:Option Addr)(cg:Nat)(h:Mk w m fs lp)(hf:fs 1= .slice Ag G cg)(h1:1<=G)(hG:G<=1000):Calls Tryd.prog 89 #[.pointer (some ⟨m,0,none⟩),.int .i64 2] w (SQ w m fs lp G):=by
 have hmw:=h.lt;have H:=hd0 h;have HF:=hd0 hf;clear h hf;go_enter Tryd.func89,Tryd.ntmps89
 go_wp2_with fail
 refine(ay w m fs lp 3 H.out (by omega) (by omega)).mono ?_;rintro e w1 ⟨x,hx,rfl,hk1,hv1⟩;have H1:=hd0 hk1;have V1:=hd0 hv1;clear hk1 hv1 H;go_wp2_with fail
 go_loopw [5,7] (fun o i wr=>∃(k:Nat) (s:List (List Int)) (cs:List Value) (A:Option Addr) (c:Nat),k<=x/\i= .int .i64 k/\o= .slice A s.length c/\s.length=k/\wr.ownsRow w.heap.size tRow 1 (.slice A s.length c) s.length cs/\Hid (Fl aeR 1 wr (TS [aF] w.heap.size wr) cs s)/\Hid (∀r∈s,afv G r)/\Hid (Mk wr m fs lp)/\Hid (Mv m w wr)) (fun _ i _=>x - (intOf i).toNat)
 case atStart=>exact⟨0,[],[],none,0,nz _,rfl,rfl,rfl,World.ownsRow_nil _ _ _ _,hd0 Fl.nil,hd0 (by simp),H1,V1⟩
 case round=>
  obtain⟨wa,rfl⟩:∃x,x=wr:=⟨_,rfl⟩
  obtain⟨k,s,cs,A,c,hk,rfl,rfl,hsk,ho,hfl,hs,HM,HV⟩:=hrel;have HO:=hd0 ho;have hz:=HV.out.size;have hs3:s.length<=3:=by omega
  have HK:=hd0 hsk;clear ho hsk;by_cases hlt:k<x
  ·go_wp2_with fail
   refine(mX wa m fs lp G Ag cg HM.out HF.out h1 hG).mono ?_;rintro e w2 ⟨r,A2,c2,hr,hr1,rfl,hs2,hm2,hv2⟩;have sp:=Sp.next HM.out hv2;have hO2:=sp.own HO.out (by decide);have Xv:=sp.fl aeR.ok (by decide) hfl.out;have rC:=eu HV.out hv2;have hz2:=rC.size;have hf2:Fl aeR 1 w2 (TS [aF] w.heap.size w2) (cs++[.slice A2 r.length c2]) (s++[r]):=Xv.snoc ⟨A2,c2,rfl,hs2.ts aeQ.ok (fun t h=>h) hz⟩ rfl;have HF2:=hd0 hf2;have pX:=hd0 hm2;have JD:=hd0 rC;clear hs2 hm2 hv2 rC Xv hf2 sp;go_wp2_with (at_builtin;refine wR MR rfl (.tmp 17) (.tmp 20) rfl w2 w2.heap.size rfl w.heap.size s.length c A cs #[.slice A2 r.length c2] rfl rfl rfl hO2 (by simp[Value.oneCell']) (by omega) hz2 ?_;intro A5 c5 w5 h5 g5 l5;have rP:=hd0 h5;have rY:=hd0 g5;clear h5 g5 l5)
   have Xc:=Sp.push hO2 (show m<=w.heap.size by omega) rY.out;have Hl:=hd0 (Xc.mk pX.out (by decide));have HV5:=hd0 (jl JD.out hO2 (ai _) rY.out);have HF5:=hd0 (Xc.fl aeR.ok (by decide) HF2.out);have Gn:Hid (w5.ownsRow w.heap.size tRow 1 (.slice A5 (s++[r]).length c5) (s++[r]).length (cs++[.slice A2 r.length c2])):=hd0 (by simpa using rP.out);clear Xc;have Bj:Hid (∀q∈s++[r],afv G q):=hd0 (fun q hq=>by
    rw[agJ,agF] at hq;rcases hq with hq|rfl
    ·exact hs.out q hq
    exact hr)
   go_roundw
   case rel=>exact⟨k+1,s++[r],cs++[.slice A2 r.length c2],A5,c5,by omega,by simp,by simp,by simp[HK.out],Gn.out,HF5,Bj,Hl,HV5⟩
   case measure=>simp[intOf];omega
  go_wp2_with fail
  go_ret
  exact⟨s,A,c,⟨hs.out,by have:=HK.out;omega⟩,rfl,cZ HO.out (hfl.out.mono aeR.ok (TS.mono (by simp) (ai _))) (by simp) (ai _) (by omega),HM.out,HV.out⟩
end
section
open Go.RowKit Go.Shelf
attribute [local go_sem] Oper.semAt_some
theorem RoundIn.wide {P:Program}{l m k l2:Nat}{f:FuncId}{tmps:Array Value}{assign body:Code}{w:World}{R:Ending->World->Prop}(h:RoundIn Fence.wide m P l f tmps assign body w R):RoundIn (Fence.wide.inRound l2) k P l f tmps assign body w R:=⟨h.1,fun c cs _=>h.2 c cs (fun _ hd=>by cases hd)⟩
def Going {α:Type}(J:List α->World->Prop)(R:World->World->Prop)(xs:List α)(W:World)(e:Ending)(W':World):Prop:=e= .returned (.bool true)/\J xs W'/\R W W'/\KeepsOthers W W'
def Gives {α:Type}(P:Program)(gf:Nat)(lb:Array Value)(encs:α->Array Value)(V:List α->α->World->Prop)(R:World->World->Prop)(S:List α->Prop)(d:Nat)(w:World):Prop:=
 ∀(l n:Nat) (J:List α->World->Prop) (W:World),d<=n->l<W.heap.size->Below w.heap.size w W->OwnFrom W.heap.size J->
  (∀pre x W1,J pre W1->V pre x W1->YieldAt Fence.wide 0 P l (encs x) W1 (Going J R (pre++[x]) W1))->J [] W->
  CallsIn Fence.wide n P gf (#[.func (.yield l) #[] #[]]++lb) W fun e W'=>(∃v,e= .returned v)/\∃xs,S xs/\J xs W'
def YN {α:Type}(I:List α->World->Prop)(R:World->World->Prop)(xs:List α)(W:World):Exit->Act->World->Prop
 | .normal,_,W'=>I xs W'/\R W W'/\KeepsOthers W W'
 |_,_,_=>False
theorem sF {P:Program}{α:Type}{g:Operand}{ps:Array Tmp}{assign body:Code}{Q:Exit->Act->World->Prop}{a:Act}{w:World}{n gf:Nat}{lb:Array Value}
  {d:Nat} (hn:d+1<=n) (hg:a.eval g= .func (.func gf) #[] lb) (eg:∀args w,(callFunc gf args).run P w= .ok (.enter gf args) w)
  {encs:α->Array Value} (hps:∀x,(encs x).size=ps.size) {V:List α->α->World->Prop} {R:World->World->Prop} {S:List α->Prop} (hit:Gives P gf lb encs V R S d w)
  (hRt:∀ {A B C:World},R A B->R B C->R A C) (hRp:∀(W:World) (l:Nat) (o o':Obj),W.heap[l]? =some o->o.isCells=false->R W (W.putObj l o'))
  (hVp:∀(xs:List α) (x:α) (W:World) (l:Nat) (o o':Obj),V xs x W->W.heap[l]? =some o->o.isCells=false->V xs x (W.putObj l o'))
  (I:List α->World->Prop) (hI:OwnFrom w.heap.size I) (h0:I [] w) (a1:α->Act)
  (hassign:∀(l:Nat) (x:α) (W:World) (K:Act->World->Prop),K (a1 x) W->assign.wpIn (Fence.wide.inRound l) 0 P (Exit.then K (fun _ _ _=>False)) {tmps:=(ps.zip (encs x)).foldl (fun t (p,v)=>t.setIfInBounds p v) a.tmps,defers:=[]} W)
  (hbody:∀(l:Nat) (pre:List α) (x:α) (W:World),I pre W->V pre x W->body.wpIn (Fence.wide.inRound l) 0 P (YN I R (pre++[x]) W) (a1 x) W)
  (hdone:∀(D:Nat) (xs:List α) (W:World),w.heap.size<=D->S xs->I xs W->W.heap[D]? =some (.deferred (some []))->Q .normal {a with defers:= {target:= .collected D,args:= #[]} ::a.defers} W):
  (Code.rangeFunc g ps assign body).wpIn Fence.wide n P Q a w:=by
 refine wpIn_rangeFunc ?_;intro fn hfn;obtain⟨rc,hrc⟩:∃rc:LoopState->Loop,rc=fun st=> {state:=st,pending:=none,fn,tmps:=a.tmps,params:=ps,assign,body,defers:=w.heap.size} :=⟨_,rfl⟩
 obtain⟨V0,hV⟩:∃V0,(w.alloc (.deferred (some []))).alloc (.loop (rc .ready))=V0:=⟨_,rfl⟩
 have hVs:V0.heap.size=w.heap.size+2:=by rw[<-hV];simp
 have hVl:V0.heap[w.heap.size+1]? =some (.loop (rc .ready)):=by have h:=World.alloc_heap_new (w.alloc (.deferred (some []))) (.loop (rc .ready));rw[World.size_alloc] at h;rw[<-hV];exact h
 have hVd:V0.heap[w.heap.size]? =some (.deferred (some [])):=by rw[<-hV];exact(Below.heap_alloc _ _ _ (by simp)).trans (World.alloc_heap_new w _)
 have hVb:Below w.heap.size w V0:=by rw[<-hV];exact((agE _ w).alloc (ai _) _).alloc (by simp) _
 have hVi:I [] V0:=by rw[<-hV];exact hI.alloc _ (hI.alloc _ h0)
 refine⟨w.heap.size+1,[{target:= .collected w.heap.size,args:= #[]}],V0,{target:= .fn (.func gf) lb,args:= #[.func (.yield (w.heap.size+1)) #[] #[]]},V0,gf,#[.func (.yield (w.heap.size+1)) #[] #[]]++lb,V0,?_,?_,?_,?_,fun _=>by omega,?_⟩
 ·rw[<-hV,hrc];exact run_enterLoop_outer _ _ _ _ _
 ·simp only[resolve,hg];simp[go_sem]
 ·intro f' _;trivial
 ·simp[invoke,go_sem,eg]
 have hJo:OwnFrom V0.heap.size (fun pre W=>I pre W/\W.heap[w.heap.size+1]? =some (.loop (rc .ready))/\W.heap[w.heap.size]? =some (.deferred (some []))):=by
  intro s A B row hs hgr hr;have hlow:∀k,k<w.heap.size+2->∀o,A.heap[k]? =some o->B.heap[k]? =some o:=fun k hk o ho=>(hgr.block k (agI.1 ho).1 (fun e=>by have:=(hr k e.symm).1;omega)).trans ho
  exact⟨hI s A B row hs.1 hgr (fun r e=>⟨by have:=(hr r e).1;omega,(hr r e).2⟩),hlow _ (by omega) _ hs.2.1,hlow _ (by omega) _ hs.2.2⟩
 refine(hit (w.heap.size+1) (n - 1) _ V0 (by omega) (by omega) hVb hJo ?_ ⟨hVi,hVl,hVd⟩).mono ?_
 ·rintro pre x W ⟨hi,hl,hd⟩ hvx;have hlt:=(agI.1 hl).1;have hy:=run_yield (P:=P) (args:=encs x) hl (by rw[hrc];exact hps x);rw[hrc] at hy;refine⟨fn,_,assign,body,hy,roundIn_of_wpIn hfn (hassign _ x W _ ⟨_,run_beginRound hl (by rw[hrc]),?_⟩)⟩;have hl2:(W.putObj (w.heap.size+1) (.loop {rc .ready with state:= .busy})).heap[w.heap.size+1]? =some (.loop {rc .ready with state:= .busy}):=World.putObj_heap_same hlt;have hd2:(W.putObj (w.heap.size+1) (.loop {rc .ready with state:= .busy})).heap[w.heap.size]? =some (.deferred (some [])):=(World.putObj_heap_other (by omega)).trans hd;have hr2:R W (W.putObj (w.heap.size+1) (.loop {rc .ready with state:= .busy})):=hRp _ _ _ _ hl rfl;refine wpIn_mono (hbody _ pre x _ (hI.putObj _ hi (by omega) hl rfl) (hVp _ _ _ _ _ _ hvx hl rfl)) ?_;rintro e a3 W3 hp;cases e with
  |normal=>
   obtain⟨hi3,hr3,hk3⟩:=hp;have hl3:=hk3.same _ _ hl2 rfl;have hd3:=hk3.same _ _ hd2 rfl;have hrun:=run_endRound (P:=P) none hl3;have hsame:({{rc .ready with state:= .busy} with state:=if(none:Option Code).isNone then LoopState.ready else .done,pending:=none} :Loop)=rc .ready:=by rw[hrc];rfl
   rw[hsame] at hrun;have hl4:(W3.putObj (w.heap.size+1) (.loop (rc .ready))).heap[w.heap.size+1]? =some (.loop (rc .ready)):=World.putObj_heap_same (agI.1 hl3).1;refine⟨_,_,hrun,rfl,⟨hI.putObj _ hi3 (by omega) hl3 rfl,hl4,(World.putObj_heap_other (by omega)).trans hd3⟩,hRt (hRt hr2 hr3) (hRp _ _ _ _ hl3 rfl),?_,fun j o hj ho=> ?_⟩
   ·have h1:=hk3.size;simp at h1 ⊢;exact h1
   by_cases hjl:j=w.heap.size+1
   ·subst hjl;rw[hl] at hj;cases hj;exact hl4
   exact(World.putObj_heap_other hjl).trans (hk3.same j o ((World.putObj_heap_other hjl).trans hj) ho)
  |ret=>exact hp.elim
  |exit id=>exact hp.elim
  |goto t=>exact hp.elim
  |panic ch=>exact hp.elim
  |outgrown=>exact hp.elim
 rintro e W2 ⟨⟨v,rfl⟩,xs,hS,hi,hl,hd⟩;have hrun:=run_endLoop (P:=P) hl (by rw[hrc];simp);have hpn:(rc .ready).pending=none:=by rw[hrc]
 rw[hpn] at hrun;refine⟨none,_,hrun,?_⟩;exact hdone _ xs _ (ai _) hS (hI.putObj _ hi (by omega) hl rfl) ((World.putObj_heap_other (by omega)).trans hd)
structure KC (w w':World):Prop where
 same:∀(b:Nat) (cs:Array Value) (t:TypeId) (fz:Nat×Nat),w.heap[b]? =some (.cells cs t fz)->t≠5->t≠96->w'.heap[b]? =some (.cells cs t fz)
 size:w.heap.size<=w'.heap.size
theorem KC.trans {a b c:World}(h:KC a b)(k:KC b c):KC a c:=⟨fun x cs t fz hx h1 h2=>k.same x cs t fz (h.same x cs t fz hx h1 h2) h1 h2,nt h.size k.size⟩
theorem KC.put (W:World)(l:Nat)(o o':Obj)(h:W.heap[l]? =some o)(hc:o.isCells=false):KC W (W.putObj l o'):=by
 refine⟨fun b cs t fz hb _ _=> ?_,by simp⟩;have hne:b≠l:=by rintro rfl;rw[h] at hb;cases hb;cases hc
 exact(World.putObj_heap_other hne).trans hb
theorem KP.kc {w w':World}(h:KP w w'):KC w w':=⟨fun b cs t fz hb h1 h2=>h.same b _ hb ⟨h1,h2⟩,h.size⟩
theorem KP.others {w w':World}(h:KP w w'):KeepsOthers w w':=⟨h.size,fun k o hk hc=>h.same k o hk (by cases o<;>first|trivial|cases hc)⟩
theorem KC.bk {w w':World}(h:KC w w'){g:Nat}{t:TypeId}{cs:Array Value}(hb:Bk w g t cs)(h1:t≠5)(h2:t≠96):Bk w' g t cs:=h.same g cs t (0,0) hb h1 h2
abbrev xW:=Nat×Nat×Nat×Nat
def MI (x:xW):Array Value:= #[.int .i64 (x.1:Int),.slice (some ⟨x.2.2.2,x.2.1*3,none⟩) (x.2.2.1+1 - x.2.1) (x.2.2.1+1 - x.2.1)]
def BL (g:Nat)(l:List (Nat×Nat×Nat)):List xW:=l.map (fun p=>(p.1,p.2.1,p.2.2,g))
def VC (n:Nat)(cs:List Value)(es:List Int)(pre:List xW)(x:xW)(W:World):Prop:=pre++[x]<+:BL x.2.2.2 (lD n 0 0 es)/\x.2.1<=x.2.2.1/\x.2.2.1<n/\RdT W 146 (some ⟨x.2.2.2,0,none⟩) n 3 cs
def SC (n:Nat)(es:List Int)(xs:List xW):Prop:=∃g,xs=BL g (lD n 0 0 es)
theorem VC.putObj (n:Nat)(cs:List Value)(es:List Int)(xs:List xW)(x:xW)(W:World)(l:Nat)(o o':Obj)(h:VC n cs es xs x W)(hl:W.heap[l]? =some o)(hc:o.isCells=false):VC n cs es xs x (W.putObj l o'):=⟨h.1,h.2.1,h.2.2.1,h.2.2.2.other (grownBy_putObj' W l o') (fun r e=>by cases e;exact⟨o,hl,hc⟩)⟩
theorem RoundIn.any {P:Program}{l m k:Nat}{f:FuncId}{tmps:Array Value}{assign body:Code}{w:World}{R:Ending->World->Prop}(h:RoundIn Fence.wide m P l f tmps assign body w R):RoundIn Fence.wide k P l f tmps assign body w R:=⟨h.1,fun c cs _=>h.2 c cs (fun _ hd=>by cases hd)⟩
abbrev EN:=Nat×Nat×Nat
def MO (b o:Nat)(x:EN):Array Value:= #[.int .i64 (x.1:Int),.slice (some ⟨b,o+x.2.1*3,none⟩) (x.2.2+1 - x.2.1) (x.2.2+1 - x.2.1)]
def VP (len:Nat)(es:List Int)(pre:List EN)(x:EN)(_:World):Prop:=pre++[x]<+:lD len 0 0 es/\x.2.1<=x.2.2/\x.2.2<len
def SP (len:Nat)(es:List Int)(xs:List EN):Prop:=xs=lD len 0 0 es
theorem KC.rdT {w w':World}(h:KC w w'){t:TypeId}{A:Option Addr}{n size:Nat}{cs:List Value}(hr:RdT w t A n size cs)(h1:t≠5)(h2:t≠96):RdT w' t A n size cs:=
 ⟨hr.1,fun hn=>by
  obtain⟨b,o,cur,e,hb,hc⟩:=hr.2 hn;exact⟨b,o,cur,e,h.bk hb h1 h2,hc⟩⟩
theorem KC.refl (w:World):KC w w:=(KP.refl w).kc
theorem KC.below {w w':World}(h:Below w.heap.size w w'):KC w w':=(KP.below h).kc
theorem FU (w:World)(be br b o len cap m d:Nat)(A E:Option Addr)(es:List Int)(hbe:Bk w be 22 #[.slice E m d])(hbr:Bk w br 49 #[.slice A len cap])(hE:RdT w 3 E m 1 (aN es))
  (hAb:0<len->A=some ⟨b,o,none⟩) (hcap:len<=cap) (hlen:cap<=9223372036854775807) (hm:m<=9223372036854775807):
  Gives Tryd.prog 92 #[.pointer (some ⟨be,0,none⟩),.pointer (some ⟨br,0,none⟩)] (MO b o) (VP len es) KC (SP len es) 8 w:=by
 intro l n J W hn _ hW _ hY h0;have hcW:=KC.below hW;have Zi:=hcW.bk hbe (by decide) (by decide);have abe:=hcW.bk hbr (by decide) (by decide);have hE1:=hcW.rdT hE (by decide) (by decide);have hel:=hE1.rd.agB;have Hel:=hd0 hel;clear hel hbe hbr hE hW hcW;have HY:=hd0 hY;clear hY;have c0:W.cell? ⟨be,0,none⟩=some (.slice E m d):=Zi.cell 0;refine callsIn_of_wp Tryd.func92 rfl trivial ?_ rfl;simp only[Tryd.ntmps92,List.size_toArray,aV,ln,Nat.reduceAdd,Nat.reduceSub,Array.replicate_succ,Array.replicate_zero,List.push_toArray,List.append_toArray,ahd,agU]
 gi_wp2
 gi_loopw [4,9] (fun f i wr=>∃(k q:Nat) (pre:List EN),k<=m/\q<=len/\i= .int .i64 k/\f= .int .i64 q/\J pre wr/\KC W wr/\Hid (pre++lD len k q (es.drop k)=lD len 0 0 es))
  (fun _ i _=>m - (intOf i).toNat)
 case atStart=>exact⟨0,0,[],by omega,by omega,rfl,rfl,h0,KC.refl _,rfl⟩
 case round=>
  obtain⟨k,q,pre,hk,hq,rfl,rfl,hJs,hnx,hpre⟩:=hrel;have adg:wr.cell? ⟨be,0,none⟩=some (.slice E m d):=(hnx.bk Zi (by decide) (by decide)).cell 0;have aeF:wr.cell? ⟨br,0,none⟩=some (.slice A len cap):=(hnx.bk abe (by decide) (by decide)).cell 0;clear c0;by_cases hlt:k<m
  ·obtain⟨be0,bo,e,rfl,-,he,hce⟩:=(hnx.rdT hE1 (by decide) (by decide)).rd.atI hlt;have hdrop:Hid (es.drop k=e::es.drop (k+1)):=by obtain⟨h1,h2⟩:=agG.1 he.out;have:=List.drop_eq_getElem_cons h1;rw[h2] at this;exact this
   by_cases hlow:e<(q:Int)
   ·have hd:decide (e<(q:Int))=true:=by simp[hlow]
    gi_wp2
    refine bodyPost_ret (results_none rfl _ _ _) rfl ?_;refine⟨⟨_,rfl⟩,pre,?_,hJs⟩;have:=hpre.out;rw[hdrop.out,lD,if_neg (by omega)] at this;show _=_;simpa using this
   have hd:decide (e<(q:Int))=false:=by simp;omega
   by_cases hhi:(len:Int)<=e
   ·gi_wp2
    refine bodyPost_ret (results_none rfl _ _ _) rfl ?_;refine⟨⟨_,rfl⟩,pre,?_,hJs⟩;have:=hpre.out;rw[hdrop.out,lD,if_neg (by omega)] at this;show _=_;simpa using this
   obtain⟨en,rfl⟩:∃en:Nat,e=en:=⟨e.toNat,by omega⟩
   have hqe:q<=en:=by omega
   have hel:en<len:=by omega
   obtain rfl:=hAb (by omega);have hnext:Hid ((pre++[((k,q,en):EN)])++lD len (k+1) (en+1) (es.drop (k+1))=lD len 0 0 es):=by have:=hpre.out;rw[hdrop.out,lD,if_pos (by omega)] at this;show _=_;simpa using this
   obtain⟨fn,tmps,assign,body,hy,hR⟩:=HY.out pre (k,q,en) wr hJs ⟨⟨_,hnext.out⟩,hqe,hel⟩;simp only[MO] at hy;clear hlow hhi
   gi_wp2
   refine⟨fun _=>nt (by decide) hn,?_⟩;refine(RoundIn.any hR).mono ?_;rintro e W3 ⟨rfl,hJ3,hk3,-⟩
   gi_wp2
   go_roundw
   case rel=>exact⟨k+1,en+1,_,by omega,by omega,by go_num,by go_num,hJ3,hnx.trans hk3,hnext⟩
   case measure=>simp[intOf];omega
  gi_wp2
  go_end0
  refine⟨⟨_,rfl⟩,pre,?_,hJs⟩;have:=hpre.out;rw[List.drop_eq_nil_of_le (by have:=Hel.out;omega)] at this;show _=_;simpa [lD] using this
end
section
open Go.RowKit
theorem PY (w:World)(f:Fnt)(A1 A2 A3 A4 A5 A6 A7 A8:Option Addr)(c1 c2 c3 c4 c5 c6 c7 c8:Nat)(hF:FIn ⟨A1,c1,A2,c2,A3,c3,A4,c4,A5,c5,A6,c6,A7,c7,A8,c8⟩ f w)(hng:Big f.aeN.length)(hnl:Big f.aeO.length)(hnf:Big f.features.length)(hL:∀l∈f.aeO,af6 l)(hX:∀x∈f.features,af7 x):Calls Tryd.prog 57 #[.agg #[.int .i64 f.unit,.slice A1 f.aeN.length c1,.slice A2 f.chars.length c2,.slice A3 f.aeO.length c3,.slice A4 f.features.length c4,.slice A5 f.aeP.length c5,.slice A6 f.regions.length c6,.slice A7 f.funcs.length c7,.slice A8 f.cvt.length c8]] w (Aj w ((f.aeO.length<=40/\∀l∈f.aeO,afO f.aeN.length f.aeO.length l)/\f.features.length<=20/\∀x∈f.features,afP f.aeO.length x)):=by
 obtain⟨P,HP⟩:∃P:Prop,Hid (P=((f.aeO.length<=40/\∀l∈f.aeO,afO f.aeN.length f.aeO.length l)/\f.features.length<=20/\∀x∈f.features,afP f.aeO.length x)):=⟨_,rfl⟩
 rw[<-HP.out];have aa2:=hnl;have ab5:=hnf;unfold Big at aa2 ab5;obtain⟨Wf,hWf,hbf,bD⟩:=aB w 32 #[.int .i64 f.unit,.slice A1 f.aeN.length c1,.slice A2 f.chars.length c2,.slice A3 f.aeO.length c3,.slice A4 f.features.length c4,.slice A5 f.aeP.length c5,.slice A6 f.regions.length c6,.slice A7 f.funcs.length c7,.slice A8 f.cvt.length c8];have aS:Hid (Below w.heap.size w Wf):=hd0 hbf;have iM:=hd0 bD;have jK:=hd0 (hF.below hbf);obtain⟨Wg,kZ,hbg,hkg⟩:=aB Wf 107 #[.int .i64 0,.int .i64 0];have bV:Hid (Below w.heap.size w Wg):=hd0 (aS.out.trans (hbg.mono aS.out.size));have aj:=hd0 hkg;have aG:Hid (Bk Wg w.heap.size 32 #[.int .i64 f.unit,.slice A1 f.aeN.length c1,.slice A2 f.chars.length c2,.slice A3 f.aeO.length c3,.slice A4 f.features.length c4,.slice A5 f.aeP.length c5,.slice A6 f.regions.length c6,.slice A7 f.funcs.length c7,.slice A8 f.cvt.length c8]):=hd0 (Bk.bel bD hbg);have HF2:=hd0 (jK.out.below hbg);have hzg:=bV.out.size;have kX:Hid (Below Wg.heap.size Wg Wg):=hd0 (agE _ _);have k0:=aG.out.cell 0;have k1:=aG.out.cell 1;have k2:=aG.out.cell 2;have k3:=aG.out.cell 3;have k4:=aG.out.cell 4;have k5:=aG.out.cell 5;have k6:=aG.out.cell 6;have k7:=aG.out.cell 7;have k8:=aG.out.cell 8;have g0:=hkg.cell 0;have g1:=hkg.cell 1;have z0:=hkg.frozen 0;have z1:=hkg.frozen 1;clear hF hbf bD hbg hkg jK;go_enter Tryd.func57,Tryd.ntmps57
 by_cases h1:40<f.aeO.length
 ·have bh1:decide ((40:Int)<f.aeO.length)=true:=decide_eq_true (by omega);go_wp2_with fail
  exact aT rfl aj.out kX.out aS.out.size bV.out _ _ rfl (fun h=>absurd h (by decide))
 have bh1:decide ((40:Int)<f.aeO.length)=false:=decide_eq_false (by omega);go_wp2_with fail
 try clear hWf
 try clear kZ
 go_loopw [3] (fun i wr=>∃q:Nat,q<=f.aeO.length/\i= .int .i64 q/\Hid (Up f.aeO q (afO f.aeN.length f.aeO.length))/\Below Wg.heap.size Wg wr) (fun i _=>f.aeO.length - (intOf i).toNat)
 case atStart=>exact⟨0,by omega,rfl,hd0 (Up.zero _ _),agE _ _⟩
 case round=>
  obtain⟨w5,rfl⟩:∃x,x=wr:=⟨_,rfl⟩
  obtain⟨q,hq,rfl,hup,hb5⟩:=hrel;have gq:Hid (Below Wg.heap.size Wg w5):=hd0 hb5;have E5:Hid (Below w.heap.size w w5):=hd0 (bV.out.trans (hb5.mono hzg));clear k0 k1 k2 k3 k4 k5 k6 k7 k8 g0 g1 z0 z1;obtain⟨k0,k1,k2,k3,k4,k5,k6,k7,k8⟩:=nine aG.out hb5;have g0:=aj.out.at hb5 0 rfl;have g1:=aj.out.at hb5 1 rfl;have z0:=(aj.out.bel hb5).frozen 0;have z1:=(aj.out.bel hb5).frozen 1;by_cases hlt:q<f.aeO.length
  ·obtain⟨x,hx⟩:∃x,f.aeO[q]? =some x:=⟨_,agH hlt⟩
   have Hx:=hd0 hx;have HO:=hd0 (MG w5 f A1 A2 A3 A4 A5 A6 A7 A8 c1 c2 c3 c4 c5 c6 c7 c8 q (HF2.out.below hb5) x hx hlt hng hnl (hL x (agM hx)));clear hb5 hx;go_wp2_with fail
   refine HO.out.mono ?_;rintro e w6 ⟨r6,rfl,tu,oU⟩;have hb6:Below Wg.heap.size Wg w6:=gq.out.trans (oU.mono gq.out.size);have dU:Hid (Below Wg.heap.size Wg w6):=hd0 hb6;have E6:Hid (Below w.heap.size w w6):=hd0 (bV.out.trans (hb6.mono hzg));clear k0 k1 k2 k3 k4 k5 k6 k7 k8 g0 g1 z0 z1;obtain⟨k0,k1,k2,k3,k4,k5,k6,k7,k8⟩:=nine aG.out hb6;have g0:=aj.out.at hb6 0 rfl;have g1:=aj.out.at hb6 1 rfl;have z0:=(aj.out.bel hb6).frozen 0;have z1:=(aj.out.bel hb6).frozen 1;clear HO hb6 oU;by_cases hr:r6=0
   ·have bY:=hd0 (hup.out.snoc Hx.out (tu hr));clear tu;subst hr;go_wp2_with fail
    go_roundw
    case rel=>exact⟨q+1,by omega,by simp,bY,dU.out⟩
    case measure=>simp[intOf];omega
   clear tu;have Jz:(r6 !=0)=true:=eU hr;go_wp2_with fail
   exact aT rfl aj.out dU.out aS.out.size E6.out _ _ rfl (fun h=>absurd h hr)
  obtain rfl:q=f.aeO.length:=by omega
  have HU5:=hd0 (fun x (hx:x∈f.aeO)=>hup.out.all x hx);clear hup hb5;by_cases h3:20<f.features.length
  ·have jJ:decide ((20:Int)<f.features.length)=true:=decide_eq_true (by omega);go_wp2_with fail
   exact aT rfl aj.out gq.out aS.out.size E5.out _ _ rfl (fun h=>absurd h (by decide))
  have jJ:decide ((20:Int)<f.features.length)=false:=decide_eq_false (by omega);go_wp2_with fail
  go_loopw [5] (fun i wr=>∃q:Nat,q<=f.features.length/\i= .int .i64 q/\Hid (Up f.features q (afP f.aeO.length))/\Below Wg.heap.size Wg wr) (fun i _=>f.features.length - (intOf i).toNat)
  case atStart=>exact⟨0,by omega,rfl,hd0 (Up.zero _ _),gq.out⟩
  case round=>
   obtain⟨w7,rfl⟩:∃x,x=wr:=⟨_,rfl⟩
   obtain⟨q,hq,rfl,hup,hb7⟩:=hrel;have jI:Hid (Below Wg.heap.size Wg w7):=hd0 hb7;have E7:Hid (Below w.heap.size w w7):=hd0 (bV.out.trans (hb7.mono hzg));clear k0 k1 k2 k3 k4 k5 k6 k7 k8 g0 g1 z0 z1;obtain⟨k0,k1,k2,k3,k4,k5,k6,k7,k8⟩:=nine aG.out hb7;have g0:=aj.out.at hb7 0 rfl;have g1:=aj.out.at hb7 1 rfl;have z0:=(aj.out.bel hb7).frozen 0;have z1:=(aj.out.bel hb7).frozen 1;by_cases hlt:q<f.features.length
   ·obtain⟨x,hx⟩:∃x,f.features[q]? =some x:=⟨_,agH hlt⟩
    have Hx:=hd0 hx;have HO:=hd0 (Sr w7 f A1 A2 A3 A4 A5 A6 A7 A8 c1 c2 c3 c4 c5 c6 c7 c8 q (HF2.out.below hb7) x hx hlt hnf hnl (hX x (agM hx)));clear hb7 hx;go_wp2_with fail
    refine HO.out.mono ?_;rintro e w8 ⟨r8,rfl,vW,Zo⟩;have hb8:Below Wg.heap.size Wg w8:=jI.out.trans (Zo.mono jI.out.size);have lg:Hid (Below Wg.heap.size Wg w8):=hd0 hb8;have E8:Hid (Below w.heap.size w w8):=hd0 (bV.out.trans (hb8.mono hzg));clear k0 k1 k2 k3 k4 k5 k6 k7 k8 g0 g1 z0 z1;obtain⟨k0,k1,k2,k3,k4,k5,k6,k7,k8⟩:=nine aG.out hb8;have g0:=aj.out.at hb8 0 rfl;have g1:=aj.out.at hb8 1 rfl;have z0:=(aj.out.bel hb8).frozen 0;have z1:=(aj.out.bel hb8).frozen 1;clear HO hb8 Zo;by_cases hr:r8=0
    ·have bY:=hd0 (hup.out.snoc Hx.out (vW hr));clear vW;subst hr;go_wp2_with fail
     go_roundw
     case rel=>exact⟨q+1,by omega,by simp,bY,lg.out⟩
     case measure=>simp[intOf];omega
    clear vW;have Jz:(r8 !=0)=true:=eU hr;go_wp2_with fail
    exact aT rfl aj.out lg.out aS.out.size E8.out _ _ rfl (fun h=>absurd h hr)
   obtain rfl:q=f.features.length:=by omega
   have HU7:=hd0 (fun x (hx:x∈f.features)=>hup.out.all x hx);clear hup hb7;have hg:P:=HP.out.mpr ⟨⟨by omega,HU5.out⟩,by omega,HU7.out⟩;go_wp2_with fail
   exact aT rfl aj.out jI.out aS.out.size E7.out 0 _ rfl (fun _=>hg)
end
section
open Go.RowKit Go.Shelf
attribute [local go_sem] Oper.semAt_some
def CI (J:List xW->World->Prop)(g:Nat)(W0:World)(pre:List EN)(W:World):Prop:=J (BL g pre) W/\KC W0 W
theorem Yi {J:List xW->World->Prop}{g B B':Nat}{W0:World}(hJ:OwnFrom B J)(hB:B<=B'):OwnFrom B' (CI J g W0):=by
 intro s A C row hs hg hr;have hr':∀r,row=some r->∃o:Obj,A.heap[r]? =some o/\o.isCells=false:=fun r e=>(hr r e).2
 refine⟨hJ _ A C row hs.1 hg (fun r e=>⟨nt hB (hr r e).1,(hr r e).2⟩),fun b cs t fz hb h1 h2=> ?_,nt hs.2.size hg.size⟩;have h3:=hs.2.same b cs t fz hb h1 h2;exact(grownBy_keeps_cells hg hr' h3 rfl).trans h3
theorem QZ {w:World}{base n c size:Nat}{e:TypeId}{A:Option Addr}{xs:List Value}(h:w.ownsRow base e size (.slice A n c) n xs):n<=c/\c<=9223372036854775807:=by
 rcases h.2 with⟨h,h0⟩|⟨g',cap',cur,h,_,_,h3,h4,_⟩
 ·simp only[ahr] at h;omega
 simp only[ahr,true_and] at h;obtain⟨_,rfl⟩:=h;simp only[maxLen] at h4;omega
theorem MP (w:World)(n m pb eb cv cu:Nat)(Av Eu:Option Addr)(cs:List Value)(h1c:∀u∈cs,u.oneCell'=true)(es:List Int)(hP:Bk w pb 49 #[.slice Av n cv])(hrow:Rd w w.heap.size Av n 3 cs)(hQ:Bk w eb 22 #[.slice Eu m cu])(hEr:RdT w 3 Eu m 1 (aN es))
  (hn:n<=100000000000) (hm:m<=100000000000):
  Gives Tryd.prog 69 #[.pointer (some ⟨pb,0,none⟩),.pointer (some ⟨eb,0,none⟩)] MI (VC n cs es) KC (SC n es) 10 w:=by
 intro l k J W hk hl hW hJ hY h0;have hP1:=hP.below hW;have hQ1:=hQ.below hW;have hr1:=hrow.below hW (ai _);have hE1:=hEr.below hW;have hs1:=hW.size;have p0:W.cell? ⟨pb,0,none⟩=some (.slice Av n cv):=hP1.cell 0;have e0:W.cell? ⟨eb,0,none⟩=some (.slice Eu m cu):=hQ1.cell 0;have zp:=hP1.lt;have ze:=hQ1.lt;clear hP hQ hrow hEr;refine callsIn_of_wp_marks Tryd.func69 rfl trivial ?_ rfl;simp only[Tryd.ntmps69,List.size_toArray,aV,ln,Nat.reduceAdd,Nat.reduceSub,Array.replicate_succ,Array.replicate_zero,List.push_toArray,List.append_toArray,ahd,agU]
 gi_wp2_with fail
 gi_region_with (first
  |(refine⟨trivial,fun _=>nt (by decide) hk,?_⟩;gi_at_call 67;refine(callsIn_wide.2 (Qe _ w.heap.size Av n cv cs h1c ((hr1.alloc (by omega) _).drew) (by simp;omega) (by omega))).mono ?_;rintro e w1 ⟨v,rfl,hown,RG⟩;have hb1:=iU RG;have e1:=ae hb1 (bK _ e0);obtain⟨A1,c1,rfl,-⟩:=Rd.afr hown)
  |(refine⟨trivial,fun _=>nt (by decide) hk,?_⟩;gi_at_call 70;refine(callsIn_wide.2 (F8 A1 Eu n c1 m cu w1)).mono ?_;rintro e w' ⟨rfl,rfl⟩))
 all_goals
  obtain⟨g,hg⟩:∃g,0<n->A1=some ⟨g,0,none⟩:=by
   by_cases h:0<n
   ·obtain⟨g,cap,hv,_,_⟩:=hown.form h;simp only[ahr,true_and] at hv;exact⟨g,fun _=>hv.1⟩
   exact⟨0,fun h'=>absurd h' h⟩
  have hcap:=QZ hown;have hY1:Bk w1 W.heap.size 148 #[.func (.yield l) #[] #[]]:=(bk1 W (.func (.yield l) #[] #[]) 148).below hb1;have hs2:=hY1.lt;have hE2:=(hE1.below ((agE _ _).alloc (ai _) (.cells #[.func (.yield l) #[] #[]] 148))).below hb1
  gi_wp2_with fail
  obtain⟨W0,hW0⟩:∃W0,(w1.alloc (.cells #[.slice A1 n c1] 49)).alloc (.cells #[.slice Eu m cu] 22)=W0:=⟨_,rfl⟩
  have hz0:W0.heap.size=w1.heap.size+2:=by rw[<-hW0];simp
  have hb0:Below w1.heap.size w1 W0:=by rw[<-hW0];exact((agE _ _).alloc (ai _) _).alloc (by simp) _
  have hcr:Bk W0 w1.heap.size 49 #[.slice A1 n c1]:=by rw[<-hW0];exact(bk1 _ _ _).alloc _
  have hce:Bk W0 (w1.heap.size+1) 22 #[.slice Eu m cu]:=by rw[<-hW0];exact bk2 _ _ _ _
  have hE3:=hE2.below hb0;have hY3:=hY1.below hb0;have hrow3:RdT W0 146 A1 n 3 cs:=(Jv hown).below hb0;have hJ0:J [] W0:=by have a1:=hJ.alloc (.cells #[.func (.yield l) #[] #[]] 148) h0;have a2:J [] w1:=hJ [] _ w1 none a1 (dm hb1 none) (fun r e=>by cases e);exact hJ [] _ W0 none a2 (dm hb0 none) (fun r e=>by cases e)
  rw[hW0];clear hW0;have HY:=hd0 hY;have HJ:=hd0 hJ;clear hY hJ;refine sF (d:=8) (by omega) (gf:=92) (lb:= #[.pointer (some ⟨w1.heap.size+1,0,none⟩),.pointer (some ⟨w1.heap.size,0,none⟩)]) rfl (enters_of Tryd.func92 (by kernel_rfl) rfl) (fun _=>rfl)
   (FU W0 _ _ g 0 n c1 m cu A1 Eu es hce hcr hE3 hg hcap.1 hcap.2 (by omega))
   (fun h k=>h.trans k) (fun W l o o' h hc=>KC.put W l o o' h hc) (fun _ _ _ _ _ _ h _ _=>h)
   (CI J g W0) (Yi HJ.out (by omega)) ⟨hJ0,KC.refl _⟩
   (fun x=> {tmps:= #[.func (.yield l) #[] #[],.pointer (some ⟨pb,0,none⟩),.pointer (some ⟨eb,0,none⟩),.pointer (some ⟨W.heap.size,0,none⟩),.int .i64 (x.1:Int),.slice (some ⟨g,x.2.1*3,none⟩) (x.2.2+1 - x.2.1) (x.2.2+1 - x.2.1),.slice Av n cv,.slice A1 n c1,.slice Eu m cu,.func (.func 92) #[] #[.pointer (some ⟨w1.heap.size+1,0,none⟩),.pointer (some ⟨w1.heap.size,0,none⟩)],.int .i64 (x.1:Int),.slice (some ⟨g,x.2.1*3,none⟩) (x.2.2+1 - x.2.1) (x.2.2+1 - x.2.1),undef,undef,undef,undef,undef],defers:=[]}) ?assign ?body ?done
  case assign=>
   intro l2 x W2 K hK;simp only[MO,ahh]
   gi_wp2
   exact hK
  case body=>
   rintro l2 pre ⟨idx,f,e⟩ W2 ⟨hJ2,hK2⟩ ⟨hpx,hfe,hen⟩;dsimp only at hfe hen ⊢;have aes:W2.cell? ⟨W.heap.size,0,none⟩=some (.func (.yield l) #[] #[]):=(hK2.bk hY3 (by decide) (by decide)).cell 0;obtain rfl:=hg (by omega);have hv:VC n cs es (BL g pre) (idx,f,e,g) W2:=by refine⟨?_,hfe,hen,hK2.rdT hrow3 (by decide) (by decide)⟩;have:=hpx.map (fun p:EN=>(p.1,p.2.1,p.2.2,g));simpa [BL] using this
   obtain⟨fn,tmps,assign,body,hy,hR⟩:=HY.out _ (idx,f,e,g) W2 hJ2 hv;simp only[MI] at hy;clear hpx hv
   gi_wp2
   refine⟨rfl,?_⟩;refine(RoundIn.wide hR).mono ?_;rintro e3 W3 ⟨rfl,hJ3,oI,hK3⟩;have hout:Hid (CI J g W0 (pre++[(idx,f,e)]) W3/\KC W2 W3/\KeepsOthers W2 W3):=by refine⟨⟨by simpa [BL] using hJ3,hK2.trans oI⟩,oI,hK3⟩
   clear hJ3 oI hK3
   gi_wp2
   exact hout.out
  case done=>
   rintro D ys W2 hD hS ⟨hJ2,hK2⟩ hK;have HS:=hd0 hS;clear hS
   gi_wp2
   refine⟨by simp,.inl ⟨_,_,rfl,run_takeDeferred hK,?_⟩⟩;refine⟨_,results_none rfl _ _ _,⟨_,rfl⟩,_,⟨g,?_⟩,HJ.out.putObj _ hJ2 (by omega) hK rfl⟩;have h:=HS.out;unfold SP at h;rw[<-h]
end
section
open Go.RowKit
theorem Pe (w:World)(f:Fnt)(A1 A2 A3 A4 A5 A6 A7 A8:Option Addr)(c1 c2 c3 c4 c5 c6 c7 c8:Nat)(hF:FIn ⟨A1,c1,A2,c2,A3,c3,A4,c4,A5,c5,A6,c6,A7,c7,A8,c8⟩ f w)(hn:Big f.aeN.length)(hm:Big f.chars.length):Calls Tryd.prog 56 #[.agg #[.int .i64 f.unit,.slice A1 f.aeN.length c1,.slice A2 f.chars.length c2,.slice A3 f.aeO.length c3,.slice A4 f.features.length c4,.slice A5 f.aeP.length c5,.slice A6 f.regions.length c6,.slice A7 f.funcs.length c7,.slice A8 f.cvt.length c8]] w (Aj w (f.chars.length<=1000/\∀c∈f.chars,(0<=c.rune/\c.rune<=1114111)/\In f.aeN.length c.aeT)):=by
 obtain⟨P,HP⟩:∃P:Prop,Hid (P=(f.chars.length<=1000/\∀c∈f.chars,(0<=c.rune/\c.rune<=1114111)/\In f.aeN.length c.aeT)):=⟨_,rfl⟩
 rw[<-HP.out];unfold Big at hn hm;obtain⟨Wf,hWf,hbf,bD⟩:=aB w 32 #[.int .i64 f.unit,.slice A1 f.aeN.length c1,.slice A2 f.chars.length c2,.slice A3 f.aeO.length c3,.slice A4 f.features.length c4,.slice A5 f.aeP.length c5,.slice A6 f.regions.length c6,.slice A7 f.funcs.length c7,.slice A8 f.cvt.length c8];have aS:Hid (Below w.heap.size w Wf):=hd0 hbf;have iM:=hd0 bD;have jK:=hd0 (hF.below hbf);obtain⟨Wg,kZ,hbg,hkg⟩:=aB Wf 107 #[.int .i64 0,.int .i64 0];have bV:Hid (Below w.heap.size w Wg):=hd0 (aS.out.trans (hbg.mono aS.out.size));have aj:=hd0 hkg;have aG:Hid (Bk Wg w.heap.size 32 #[.int .i64 f.unit,.slice A1 f.aeN.length c1,.slice A2 f.chars.length c2,.slice A3 f.aeO.length c3,.slice A4 f.features.length c4,.slice A5 f.aeP.length c5,.slice A6 f.regions.length c6,.slice A7 f.funcs.length c7,.slice A8 f.cvt.length c8]):=hd0 (Bk.bel bD hbg);have HF2:=hd0 (jK.out.below hbg);have hzg:=bV.out.size;have kX:Hid (Below Wg.heap.size Wg Wg):=hd0 (agE _ _);have k2:=aG.out.cell 2;have g0:=hkg.cell 0;have g1:=hkg.cell 1;have z0:=hkg.frozen 0;have z1:=hkg.frozen 1;clear hF hbf bD hbg hkg jK;go_enter Tryd.func56,Tryd.ntmps56
 by_cases h1:1000<f.chars.length
 ·have bh1:decide ((1000:Int)<f.chars.length)=true:=decide_eq_true (by omega);go_wp2_with fail
  exact aT rfl aj.out kX.out aS.out.size bV.out _ _ rfl (fun h=>absurd h (by decide))
 have bh1:decide ((1000:Int)<f.chars.length)=false:=decide_eq_false (by omega);go_wp2_with fail
 try clear hWf
 try clear kZ
 go_loopw [3] (fun i wr=>∃q:Nat,q<=f.chars.length/\i= .int .i64 q/\Hid (Up f.chars q (fun c=>(0<=c.rune/\c.rune<=1114111)/\In f.aeN.length c.aeT))/\Below Wg.heap.size Wg wr) (fun i _=>f.chars.length - (intOf i).toNat)
 case atStart=>exact⟨0,by omega,rfl,hd0 (Up.zero _ _),agE _ _⟩
 case round=>
  obtain⟨w5,rfl⟩:∃x,x=wr:=⟨_,rfl⟩
  obtain⟨q,hq,rfl,hup,hb5⟩:=hrel;have gq:Hid (Below Wg.heap.size Wg w5):=hd0 hb5;have E5:Hid (Below w.heap.size w w5):=hd0 (bV.out.trans (hb5.mono hzg));clear k2;clear g0 g1 z0 z1;have k2:=aG.out.at hb5 2 rfl;have g0:=aj.out.at hb5 0 rfl;have g1:=aj.out.at hb5 1 rfl;have z0:=(aj.out.bel hb5).frozen 0;have z1:=(aj.out.bel hb5).frozen 1;by_cases hlt:q<f.chars.length
  ·obtain⟨b,o,x,rfl,hb,hx,q0,q1,-,-⟩:=(HF2.out.chars.lw afb.ok hb5).chr hlt;obtain⟨W3,hW3,hb3,hk3⟩:=aB w5 74 #[.int .i64 x.rune,.int .i64 x.aeT];have HB3:Hid (Below Wg.heap.size Wg W3):=hd0 (hb5.trans (hb3.mono hb5.size));have E3:Hid (Below w.heap.size w W3):=hd0 (bV.out.trans (HB3.out.mono hzg));have HC3:=hd0 (HF2.out.chars.lw afb.ok HB3.out);have u1:=aG.out.at HB3.out 1 rfl;have u2:=aG.out.at HB3.out 2 rfl;have p0:=hk3.cell 0;have p1:=hk3.cell 1;clear g0 g1 z0 z1;have g0:=aj.out.at HB3.out 0 rfl;have g1:=aj.out.at HB3.out 1 rfl;have z0:=(aj.out.bel HB3.out).frozen 0;have z1:=(aj.out.bel HB3.out).frozen 1;clear hb hb3 hk3 hb5;by_cases h1:x.rune<0
   ·have bh1:decide (x.rune<0)=true:=decide_eq_true h1;go_wp2_with fail
    exact aT rfl aj.out HB3.out aS.out.size E3.out _ _ rfl (fun h=>absurd h (by decide))
   have bh1:decide (x.rune<0)=false:=decide_eq_false h1;by_cases h2:1114111<x.rune
   ·have kF:decide (1114111<x.rune)=true:=decide_eq_true h2;go_wp2_with fail
    exact aT rfl aj.out HB3.out aS.out.size E3.out _ _ rfl (fun h=>absurd h (by decide))
   have kF:decide (1114111<x.rune)=false:=decide_eq_false h2;by_cases h3:x.aeT<0
   ·have jJ:decide (x.aeT<0)=true:=decide_eq_true h3;go_wp2_with fail
    exact aT rfl aj.out HB3.out aS.out.size E3.out _ _ rfl (fun h=>absurd h (by decide))
   have jJ:decide (x.aeT<0)=false:=decide_eq_false h3;by_cases h4:(f.aeN.length:Int)<=x.aeT
   ·have qX:decide ((f.aeN.length:Int)<=x.aeT)=true:=decide_eq_true h4;go_wp2_with fail
    exact aT rfl aj.out HB3.out aS.out.size E3.out _ _ rfl (fun h=>absurd h (by decide))
   have qX:decide ((f.aeN.length:Int)<=x.aeT)=false:=decide_eq_false h4;have bY:=hd0 (hup.out.snoc hx.out ⟨⟨by omega,by omega⟩,In.of h3 h4⟩);by_cases hk0:q=0
   ·subst hk0;simp only[Nat.zero_mul,Nat.add_zero] at q0 q1;have e0:((0:Nat):Int)=0:=rfl;rw[e0];go_wp2_with fail
    go_quiet (fail)
    go_wp2_with fail
    go_roundw
    case rel=>exact⟨0+1,by omega,by simp,bY,below_drewN HB3.out _⟩
    case measure=>simp[intOf];omega
   obtain⟨j,rfl⟩:∃j,q=j+1:=⟨q - 1,by omega⟩
   have bk:decide (0<((j+1:Nat):Int))=true:=decide_eq_true (by omega);have ej:((j+1:Nat):Int) - 1=(j:Int):=by omega
   obtain⟨b',o',y,e',hb',hy,v0,v1,r1⟩:=HC3.out.chr (k:=j) (by omega);obtain⟨rfl,rfl⟩:b=b'/\o=o':=by simpa using e'
   clear hb' r1 e';by_cases h5:x.rune<=y.rune
   ·have sS:decide (x.rune<=y.rune)=true:=decide_eq_true h5;go_wp2_with fail
    go_quiet (fail)
    go_wp2_with fail
    exact aT rfl aj.out (below_drewN HB3.out _) aS.out.size (below_drewN E3.out _) _ _ rfl (fun h=>absurd h (by decide))
   have sS:decide (x.rune<=y.rune)=false:=decide_eq_false h5;go_wp2_with fail
   go_quiet (fail)
   go_wp2_with fail
   go_roundw
   case rel=>exact⟨j+1+1,by omega,by simp,bY,below_drewN HB3.out _⟩
   case measure=>simp[intOf];omega
  obtain rfl:q=f.chars.length:=by omega
  have hg:P:=HP.out.mpr ⟨by omega,fun n hn=>hup.out.all n hn⟩;clear hb5;go_wp2_with fail
  exact aT rfl aj.out gq.out aS.out.size E5.out 0 _ rfl (fun _=>hg)
end
end Go.Proofs.YtkijckccfookeaaDoor
