/- Lemmas. -/
import Derived.Test.YtkijckccfookeaaGreatDoorMkPiece
import Derived.Test.YtkijckccfookeaaGreatDoorU22
set_option linter.unusedVariables false
set_option linter.unusedSimpArgs false
set_option maxRecDepth 100000
set_option maxHeartbeats 32000000
namespace Go.Proofs.YtkijckccfookeaaGreatDoor
section
open Go.RowKit
theorem abk {α:Type}{R:Rel α}{size:Nat}{w:World}{S:Bs}{c c':List Value}{xs:List α}(hdet:∀cs cs' x,R w S cs x->R w S cs' x->cs=cs')(h:Fl R size w S c xs)(h':Fl R size w S c' xs)(hs:0<size):c=c':=by
 apply List.ext_getElem?;intro i;by_cases hi:i<xs.length*size
 ·have hk:i / size<xs.length:=by
   rw[Nat.div_lt_iff_lt_mul hs];exact hi
  have hx:xs[i / size]? =some xs[i / size]:=anw hk;obtain⟨cs,r1,l1,g1⟩:=h.2 _ _ hx;obtain⟨cs',r2,l2,g2⟩:=h'.2 _ _ hx;obtain rfl:=hdet _ _ _ r1 r2;have hj:i % size<cs.length:=by rw[l1];exact Nat.mod_lt _ hs
  have hu:cs[i % size]? =some cs[i % size]:=anw hj;have e:i / size*size+i % size=i:=by rw[Nat.mul_comm];exact Nat.div_add_mod i size
  have a:=g1 _ _ hu;have b:=g2 _ _ hu;rw[e] at a b;rw[a,b]
 rw[anU (by rw[h.1];omega),anU (by rw[h'.1];omega)]
theorem abp {w:World}{S:Bs}{c:List Value}{xs:List Ins}(h:Fl akZ 2 w S c xs):c=kD xs:=
 abk (fun _ _ _ a b=>a.1.trans b.1.symm) h (Jj w S xs (fun i hi=>by
  obtain⟨k,hk⟩:=anP.1 hi;obtain⟨cs,r,-⟩:=h.2 k i hk;exact r.2)) (by omega)
theorem acm {w:World}{ts:List TypeId}{b:Nat}{A:Option Addr}{xs:List Ins}(h:Sl akZ 2 w (TS ts b w) A xs):Rd w w.heap.size A xs.length 2 (kD xs):=by
 obtain⟨c,h1,h2⟩:=h.rdM TS.lt
 rwa [abp h1] at h2
theorem acs {a b:List Ins}(h:mG a)(k:mG b):mG (a++b):=fun x hx=>by
 rw[anz] at hx;rcases hx with hx|hx
 ·exact h x hx
 exact k x hx
theorem Sr (w:World)(m:Nat)(fs:Nat->Value)(lp:Int)(n fu mo:Nat)(h:Mk w m fs lp)(hlp:0<=lp/\lp<=10)(hn:n<=1000)(hfu:fu<=1000)(hm1:1<=mo)(uS:mo<=6):Calls Tryz.prog 60 #[.pointer (some ⟨m,0,none⟩),.int .i64 n,.int .i64 fu,.int .i64 mo] w (BG w m fs 45):=by
 have hmw:=h.lt;have H:=hd0 h;have HL:=hd0 hlp;clear h hlp;go_enter Tryz.func60,Tryz.ntmps60
 go_wp2_with fail
 refine(az w m fs lp mo H.out hm1 (by omega)).mono ?_;rintro e w1 ⟨x,hx,rfl,hk1,hv1⟩;have H1:=hd0 hk1;have V1:=hd0 hv1;clear hk1 hv1 H;go_wp2_with fail
 go_loopw [9,11] (fun o i wr=>∃(k:Nat) (p:List Ins) (A:Option Addr) (c:Nat) (l:Int),k<=x/\i= .int .i64 k/\o= .slice A p.length c/\wr.ownsRow w.heap.size pz 2 (.slice A p.length c) p.length (kD p)/\Hid (mG p/\p.length<=9*k/\0<=l/\l<=10)/\Hid (Mk wr m fs l)/\Hid (Mv m w wr)) (fun _ i _=>x - (intOf i).toNat)
 case atStart=>exact⟨0,[],none,0,lp,nz _,rfl,rfl,World.ownsRow_nil _ _ _ _,hd0 ⟨iH,by simp,HL.out⟩,H1,V1⟩
 case round=>
  obtain⟨wa,rfl⟩:∃x,x=wr:=⟨_,rfl⟩
  obtain⟨k,p,A,c,l,hk,rfl,rfl,ho,hp,HM,HV⟩:=hrel;have HO:=hd0 ho;have hpl:p.length<=100:=by have:=hp.out.2.1;omega
  have hz:=HV.out.size;clear ho;by_cases hlt:k<x
  ·go_wp2_with fail
   refine(Zg wa m fs l n fu HM.out hp.out.2.2 hn hfu).mono ?_;rintro e w2 ⟨q,A2,c2,l2,hq,AP,hl2,rfl,hqc,hs2,hm2,hv2⟩;have hO2:=(Sp.next HM.out hv2).own HO.out (by decide);have hR2:=acm hs2;have wJ:=gu HV.out hv2;have hz2:=wJ.size;have sW:=hd0 hm2;have RY:=hd0 wJ;clear hs2 hm2 hv2 wJ;go_wp2_with (at_builtin;refine Gw Dq rfl (.tmp 20) (.tmp 24) rfl w2 w.heap.size p.length c A (kD p) w2.heap.size A2 q.length c2 (kD q) rfl rfl hO2 hR2 (Wp q) (by omega) hz2 ?_;intro A5 c5 w5 h5 g5 l5;have He:=hd0 h5;have Au:=hd0 g5;clear h5 g5 l5)
   have O7:=hd0 ((Sp.push hO2 (show m<=w.heap.size by omega) Au.out).mk sW.out (by decide));have HV5:=hd0 (kK RY.out hO2 (af _) Au.out);have O0:Hid (w5.ownsRow w.heap.size pz 2 (.slice A5 (p++q).length c5) (p++q).length (kD (p++q))):=(by rw[la,VV];exact He.out)
   have vw:Hid (mG (p++q)/\(p++q).length<=9*(k+1)/\0<=l2/\l2<=10):=hd0 ⟨acs hp.out.1 hq,by rw[la];have:=hp.out.2.1;omega,hl2⟩;go_roundw
   case rel=>exact⟨k+1,p++q,A5,c5,l2,by omega,by simp,by simp,O0.out,vw,O7,HV5⟩
   case measure=>simp[intOf];omega
  go_wp2_with fail
  go_ret
  exact⟨p,A,c,l,hp.out.1,by have:=hp.out.2.1;omega,hp.out.2.2,rfl,vW HO.out,dG HO.out (Jj _ _ p (QX hp.out.1)) (by simp) (af _) (by omega),HM.out,HV.out⟩
def ad6 (w:World)(m:Nat)(fs:Nat->Value)(lp:Int)(G:Nat)(e:Ending)(w':World):Prop:=∃(s:List Int) (A:Option Addr) (c:Nat),alL G s/\1<=s.length/\e= .returned (.slice A s.length c)/\Sl akL 1 w' (TS [aQ] w.heap.size w') A s/\Mk w' m fs lp/\Mv m w w'
theorem In.i64 {G:Nat}(hG:G<=1000){n:Int}(h:In G n):I64 n:=by obtain⟨a,b⟩:=h;unfold I64;omega
theorem qL (w:World)(m:Nat)(fs:Nat->Value)(lp:Int)(G:Nat)(Ag:Option Addr)(cg:Nat)(h:Mk w m fs lp)(hf:fs 1= .slice Ag G cg)(h1:1<=G)(hG:G<=1000):Calls Tryz.prog 150 #[.pointer (some ⟨m,0,none⟩)] w (ad6 w m fs lp G):=by
 have hmw:=h.lt;have qg:w.cell? ⟨m,3,none⟩=some (.slice Ag G cg):=by have:=h.cells.1 1 (by omega);rw[hf] at this;exact this
 have H:=hd0 h;clear h hf;go_enter Tryz.func150,Tryz.ntmps150
 go_wp2_with fail
 refine(az w m fs lp G H.out h1 (by omega)).mono ?_;rintro e w1 ⟨a,ha,rfl,hk1,hv1⟩;have H1:=hd0 hk1;have V1:=hd0 hv1;clear hk1 hv1 H qg;go_wp2_with fail
 go_loopw [5,6] (fun o i wr=>∃(k:Nat) (s:List Int) (A:Option Addr) (c:Nat),k<=G/\i= .int .i64 k/\o= .slice A s.length c/\s.length<=4/\wr.ownsRow w.heap.size aQ 1 (.slice A s.length c) s.length (aH s)/\Hid (alL G s/\1<=s.length/\∀x∈s,x<k)/\Hid (Mk wr m fs lp)/\Hid (Mv m w wr)) (fun _ i _=>G - (intOf i).toNat)
 case atStart=>have hb:Below w1.heap.size w1 (w1.alloc (.cells #[.int .i64 a] aQ)):=(ant _ _).alloc (af _) _;refine⟨a+1,[(a:Int)],some ⟨w1.heap.size,0,none⟩,1,by omega,by simp,rfl,by simp,?_,hd0 ⟨alL.one ⟨by omega,by omega⟩,by simp,fun x hx=>by simp only[anu] at hx;omega⟩,hd0 (H1.out.below hb),hd0 (jS V1.out hb)⟩;exact yJ w1 w.heap.size aQ 1 1 #[.int .i64 a] V1.out.size rfl (by omega)
 case round=>
  obtain⟨wa,rfl⟩:∃x,x=wr:=⟨_,rfl⟩
  obtain⟨k,s,A,c,hk,rfl,rfl,hs4,ho,hs,HM,HV⟩:=hrel;have HO:=hd0 ho;clear ho;by_cases hlt:k<G
  ·by_cases hl4:s.length<4
   ·go_wp2_with fail
    refine(az wa m fs lp 3 HM.out (by omega) (by omega)).mono ?_;rintro e w2 ⟨y,hy,rfl,hm2,hv2⟩;have hO2:=(Sp.next HM.out hv2).own HO.out (by decide);have sW:=hd0 hm2;have wJ:=gu HV.out hv2;have hz2:=wJ.size;have RY:=hd0 wJ;clear hm2 hv2 wJ;by_cases hy0:y=0
    ·have e0:((y:Int)==0)=true:=by simp;omega
     have HS2:Hid (alL G (s++[(k:Int)])/\1<=(s++[(k:Int)]).length/\∀x∈s++[(k:Int)],x<((k+1:Nat):Int)):=hd0 ⟨hs.out.1.snoc ⟨by omega,by omega⟩ hs.out.2.2 hl4,by simp,fun x hx=>by
      rw[anz,anu] at hx;rcases hx with hx|rfl
      ·have:=hs.out.2.2 x hx;omega
      omega⟩
     clear hy0;go_wp2_with (at_builtin;refine iP iL rfl (.tmp 33) (.tmp 35) rfl w2 w2.heap.size rfl w.heap.size s.length c A (aH s) #[.int .i64 k] rfl rfl rfl hO2 (by simp[Value.oneCell']) (by omega) hz2 ?_;intro A5 c5 w5 h5 g5 l5;have He:=hd0 h5;have Au:=hd0 g5;clear h5 g5 l5)
     have O7:=hd0 ((Sp.push hO2 (show m<=w.heap.size by omega) Au.out).mk sW.out (by decide));have HV5:=hd0 (kK RY.out hO2 (af _) Au.out);have O0:Hid (w5.ownsRow w.heap.size aQ 1 (.slice A5 (s++[(k:Int)]).length c5) (s++[(k:Int)]).length (aH (s++[(k:Int)]))):=hd0 (by simpa [aH,cI] using He.out);go_roundw
     case rel=>exact⟨k+1,s++[(k:Int)],A5,c5,by omega,by simp,by simp,by simp;omega,O0.out,HS2,O7,HV5⟩
     case measure=>simp[intOf];omega
    have e0:((y:Int)==0)=false:=by simp;omega
    have G9:=hd0 hO2;have HS2:Hid (alL G s/\1<=s.length/\∀x∈s,x<((k+1:Nat):Int)):=hd0 ⟨hs.out.1,hs.out.2.1,fun x hx=>by have:=hs.out.2.2 x hx;omega⟩;clear hy0 hO2;go_wp2_with fail
    go_roundw
    case rel=>exact⟨k+1,s,A,c,by omega,by simp,rfl,hs4,G9.out,HS2,sW,RY⟩
    case measure=>simp[intOf];omega
   go_wp2_with fail
   go_ret
   exact⟨s,A,c,hs.out.1,hs.out.2.1,rfl,dG HO.out (jP _ _ s (fun n hn=>In.i64 hG (hs.out.1.set.2 n hn))) (by simp) (af _) (by omega),HM.out,HV.out⟩
  go_wp2_with fail
  go_ret
  exact⟨s,A,c,hs.out.1,hs.out.2.1,rfl,dG HO.out (jP _ _ s (fun n hn=>In.i64 hG (hs.out.1.set.2 n hn))) (by simp) (af _) (by omega),HM.out,HV.out⟩
abbrev tRow:TypeId:=22
def aam (w:World)(m:Nat)(fs:Nat->Value)(lp:Int)(G:Nat)(e:Ending)(w':World):Prop:=∃(s:List (List Int)) (A:Option Addr) (c:Nat),akT G 2 s/\e= .returned (.slice A s.length c)/\Sl akM 1 w' (TS [aQ,tRow] w.heap.size w') A s/\Mk w' m fs lp/\Mv m w w'
theorem iF (w:World)(m:Nat)(fs:Nat->Value)(lp:Int)(G:Nat)(Ag:Option Addr)(cg:Nat)(h:Mk w m fs lp)(hf:fs 1= .slice Ag G cg)(h1:1<=G)(hG:G<=1000):Calls Tryz.prog 151 #[.pointer (some ⟨m,0,none⟩),.int .i64 2] w (aam w m fs lp G):=by
 have hmw:=h.lt;have H:=hd0 h;have HF:=hd0 hf;clear h hf;go_enter Tryz.func151,Tryz.ntmps151
 go_wp2_with fail
 refine(az w m fs lp 3 H.out (by omega) (by omega)).mono ?_;rintro e w1 ⟨x,hx,rfl,hk1,hv1⟩;have H1:=hd0 hk1;have V1:=hd0 hv1;clear hk1 hv1 H;go_wp2_with fail
 go_loopw [5,7] (fun o i wr=>∃(k:Nat) (s:List (List Int)) (cs:List Value) (A:Option Addr) (c:Nat),k<=x/\i= .int .i64 k/\o= .slice A s.length c/\s.length=k/\wr.ownsRow w.heap.size tRow 1 (.slice A s.length c) s.length cs/\Hid (Fl akM 1 wr (TS [aQ] w.heap.size wr) cs s)/\Hid (∀r∈s,alL G r)/\Hid (Mk wr m fs lp)/\Hid (Mv m w wr)) (fun _ i _=>x - (intOf i).toNat)
 case atStart=>exact⟨0,[],[],none,0,nz _,rfl,rfl,rfl,World.ownsRow_nil _ _ _ _,hd0 Fl.nil,hd0 (by simp),H1,V1⟩
 case round=>
  obtain⟨wa,rfl⟩:∃x,x=wr:=⟨_,rfl⟩
  obtain⟨k,s,cs,A,c,hk,rfl,rfl,hsk,ho,hfl,hs,HM,HV⟩:=hrel;have HO:=hd0 ho;have hz:=HV.out.size;have hs3:s.length<=3:=by omega
  have HK:=hd0 hsk;clear ho hsk;by_cases hlt:k<x
  ·go_wp2_with fail
   refine(qL wa m fs lp G Ag cg HM.out HF.out h1 hG).mono ?_;rintro e w2 ⟨r,A2,c2,hr,hr1,rfl,hs2,hm2,hv2⟩;have sp:=Sp.next HM.out hv2;have hO2:=sp.own HO.out (by decide);have adp:=sp.fl akM.ok (by decide) hfl.out;have wJ:=gu HV.out hv2;have hz2:=wJ.size;have hf2:Fl akM 1 w2 (TS [aQ] w.heap.size w2) (cs++[.slice A2 r.length c2]) (s++[r]):=adp.snoc ⟨A2,c2,rfl,hs2.ts akL.ok (fun t h=>h) hz⟩ rfl;have HF2:=hd0 hf2;have sW:=hd0 hm2;have RY:=hd0 wJ;clear hs2 hm2 hv2 wJ adp hf2 sp;go_wp2_with (at_builtin;refine iP Hw rfl (.tmp 17) (.tmp 20) rfl w2 w2.heap.size rfl w.heap.size s.length c A cs #[.slice A2 r.length c2] rfl rfl rfl hO2 (by simp[Value.oneCell']) (by omega) hz2 ?_;intro A5 c5 w5 h5 g5 l5;have He:=hd0 h5;have Au:=hd0 g5;clear h5 g5 l5)
   have sp5:=Sp.push hO2 (show m<=w.heap.size by omega) Au.out;have O7:=hd0 (sp5.mk sW.out (by decide));have HV5:=hd0 (kK RY.out hO2 (af _) Au.out);have HF5:=hd0 (sp5.fl akM.ok (by decide) HF2.out);have O0:Hid (w5.ownsRow w.heap.size tRow 1 (.slice A5 (s++[r]).length c5) (s++[r]).length (cs++[.slice A2 r.length c2])):=hd0 (by simpa using He.out);clear sp5;have HS5:Hid (∀q∈s++[r],alL G q):=hd0 (fun q hq=>by
    rw[anz,anu] at hq;rcases hq with hq|rfl
    ·exact hs.out q hq
    exact hr)
   go_roundw
   case rel=>exact⟨k+1,s++[r],cs++[.slice A2 r.length c2],A5,c5,by omega,by simp,by simp,by simp[HK.out],O0.out,HF5,HS5,O7,HV5⟩
   case measure=>simp[intOf];omega
  go_wp2_with fail
  go_ret
  exact⟨s,A,c,⟨hs.out,by have:=HK.out;omega⟩,rfl,dG HO.out (hfl.out.mono akM.ok (TS.mono (by simp) (af _))) (by simp) (af _) (by omega),HM.out,HV.out⟩
end
section
open Go.RowKit Go.Shelf
attribute [local go_sem] Oper.semAt_some
theorem RoundIn.wide {P:Program}{l m k l2:Nat}{f:FuncId}{tmps:Array Value}{assign body:Code}{w:World}{R:Ending->World->Prop}(h:RoundIn Fence.wide m P l f tmps assign body w R):RoundIn (Fence.wide.inRound l2) k P l f tmps assign body w R:=⟨h.1,fun c cs _=>h.2 c cs (fun _ hd=>by cases hd)⟩
def Going {α:Type}(J:List α->World->Prop)(R:World->World->Prop)(xs:List α)(W:World)(e:Ending)(W':World):Prop:=e= .returned (.bool true)/\J xs W'/\R W W'/\KeepsOthers W W'
def Gives {α:Type}(P:Program)(gf:Nat)(lb:Array Value)(encs:α->Array Value)(V:List α->α->World->Prop)(R:World->World->Prop)(S:List α->Prop)(d:Nat)(w:World):Prop:=
 ∀(l n:Nat) (J:List α->World->Prop) (W:World),d<=n->l<W.heap.size->Below w.heap.size w W->OwnFrom W.heap.size J->
  (∀pre x W1,J pre W1->V pre x W1->YieldAt Fence.wide 0 P l (encs x) W1 (Going J R (pre++[x]) W1))->J [] W->
  CallsIn Fence.wide n P gf (#[.func (.yield l) #[] #[]]++lb) W fun e W'=>(∃v,e= .returned v)/\∃xs,S xs/\J xs W'
def acD {α:Type}(I:List α->World->Prop)(R:World->World->Prop)(xs:List α)(W:World):Exit->Act->World->Prop
 | .normal,_,W'=>I xs W'/\R W W'/\KeepsOthers W W'
 |_,_,_=>False
theorem xP {P:Program}{α:Type}{g:Operand}{ps:Array Tmp}{assign body:Code}{Q:Exit->Act->World->Prop}{a:Act}{w:World}{n gf:Nat}{lb:Array Value}
  {d:Nat} (hn:d+1<=n) (hg:a.eval g= .func (.func gf) #[] lb) (eg:∀args w,(callFunc gf args).run P w= .ok (.enter gf args) w)
  {encs:α->Array Value} (hps:∀x,(encs x).size=ps.size) {V:List α->α->World->Prop} {R:World->World->Prop} {S:List α->Prop} (hit:Gives P gf lb encs V R S d w)
  (hRt:∀ {A B C:World},R A B->R B C->R A C) (hRp:∀(W:World) (l:Nat) (o o':Obj),W.heap[l]? =some o->o.isCells=false->R W (W.putObj l o'))
  (hVp:∀(xs:List α) (x:α) (W:World) (l:Nat) (o o':Obj),V xs x W->W.heap[l]? =some o->o.isCells=false->V xs x (W.putObj l o'))
  (I:List α->World->Prop) (hI:OwnFrom w.heap.size I) (h0:I [] w) (a1:α->Act)
  (hassign:∀(l:Nat) (x:α) (W:World) (K:Act->World->Prop),K (a1 x) W->assign.wpIn (Fence.wide.inRound l) 0 P (Exit.then K (fun _ _ _=>False)) {tmps:=(ps.zip (encs x)).foldl (fun t (p,v)=>t.setIfInBounds p v) a.tmps,defers:=[]} W)
  (hbody:∀(l:Nat) (pre:List α) (x:α) (W:World),I pre W->V pre x W->body.wpIn (Fence.wide.inRound l) 0 P (acD I R (pre++[x]) W) (a1 x) W)
  (hdone:∀(D:Nat) (xs:List α) (W:World),w.heap.size<=D->S xs->I xs W->W.heap[D]? =some (.deferred (some []))->Q .normal {a with defers:= {target:= .collected D,args:= #[]} ::a.defers} W):
  (Code.rangeFunc g ps assign body).wpIn Fence.wide n P Q a w:=by
 refine wpIn_rangeFunc ?_;intro fn hfn;obtain⟨rc,hrc⟩:∃rc:LoopState->Loop,rc=fun st=> {state:=st,pending:=none,fn,tmps:=a.tmps,params:=ps,assign,body,defers:=w.heap.size} :=⟨_,rfl⟩
 obtain⟨V0,hV⟩:∃V0,(w.alloc (.deferred (some []))).alloc (.loop (rc .ready))=V0:=⟨_,rfl⟩
 have hVs:V0.heap.size=w.heap.size+2:=by rw[<-hV];simp
 have hVl:V0.heap[w.heap.size+1]? =some (.loop (rc .ready)):=by have h:=World.alloc_heap_new (w.alloc (.deferred (some []))) (.loop (rc .ready));rw[World.size_alloc] at h;rw[<-hV];exact h
 have hVd:V0.heap[w.heap.size]? =some (.deferred (some [])):=by rw[<-hV];exact(Below.heap_alloc _ _ _ (by simp)).trans (World.alloc_heap_new w _)
 have hVb:Below w.heap.size w V0:=by rw[<-hV];exact((ant _ w).alloc (af _) _).alloc (by simp) _
 have hVi:I [] V0:=by rw[<-hV];exact hI.alloc _ (hI.alloc _ h0)
 refine⟨w.heap.size+1,[{target:= .collected w.heap.size,args:= #[]}],V0,{target:= .fn (.func gf) lb,args:= #[.func (.yield (w.heap.size+1)) #[] #[]]},V0,gf,#[.func (.yield (w.heap.size+1)) #[] #[]]++lb,V0,?_,?_,?_,?_,fun _=>by omega,?_⟩
 ·rw[<-hV,hrc];exact run_enterLoop_outer _ _ _ _ _
 ·simp only[resolve,hg];simp[go_sem]
 ·intro f' _;trivial
 ·simp[invoke,go_sem,eg]
 have hJo:OwnFrom V0.heap.size (fun pre W=>I pre W/\W.heap[w.heap.size+1]? =some (.loop (rc .ready))/\W.heap[w.heap.size]? =some (.deferred (some []))):=by
  intro s A B row hs hgr hr;have hlow:∀k,k<w.heap.size+2->∀o,A.heap[k]? =some o->B.heap[k]? =some o:=fun k hk o ho=>(hgr.block k (anx.1 ho).1 (fun e=>by have:=(hr k e.symm).1;omega)).trans ho
  exact⟨hI s A B row hs.1 hgr (fun r e=>⟨by have:=(hr r e).1;omega,(hr r e).2⟩),hlow _ (by omega) _ hs.2.1,hlow _ (by omega) _ hs.2.2⟩
 refine(hit (w.heap.size+1) (n - 1) _ V0 (by omega) (by omega) hVb hJo ?_ ⟨hVi,hVl,hVd⟩).mono ?_
 ·rintro pre x W ⟨hi,hl,hd⟩ hvx;have hlt:=(anx.1 hl).1;have hy:=run_yield (P:=P) (args:=encs x) hl (by rw[hrc];exact hps x);rw[hrc] at hy;refine⟨fn,_,assign,body,hy,roundIn_of_wpIn hfn (hassign _ x W _ ⟨_,run_beginRound hl (by rw[hrc]),?_⟩)⟩;have hl2:(W.putObj (w.heap.size+1) (.loop {rc .ready with state:= .busy})).heap[w.heap.size+1]? =some (.loop {rc .ready with state:= .busy}):=World.putObj_heap_same hlt;have hd2:(W.putObj (w.heap.size+1) (.loop {rc .ready with state:= .busy})).heap[w.heap.size]? =some (.deferred (some [])):=(World.putObj_heap_other (by omega)).trans hd;have hr2:R W (W.putObj (w.heap.size+1) (.loop {rc .ready with state:= .busy})):=hRp _ _ _ _ hl rfl;refine wpIn_mono (hbody _ pre x _ (hI.putObj _ hi (by omega) hl rfl) (hVp _ _ _ _ _ _ hvx hl rfl)) ?_;rintro e a3 W3 hp;cases e with
  |normal=>
   obtain⟨hi3,hr3,hk3⟩:=hp;have hl3:=hk3.same _ _ hl2 rfl;have hd3:=hk3.same _ _ hd2 rfl;have hrun:=run_endRound (P:=P) none hl3;have hsame:({{rc .ready with state:= .busy} with state:=if(none:Option Code).isNone then LoopState.ready else .done,pending:=none} :Loop)=rc .ready:=by rw[hrc];rfl
   rw[hsame] at hrun;have hl4:(W3.putObj (w.heap.size+1) (.loop (rc .ready))).heap[w.heap.size+1]? =some (.loop (rc .ready)):=World.putObj_heap_same (anx.1 hl3).1;refine⟨_,_,hrun,rfl,⟨hI.putObj _ hi3 (by omega) hl3 rfl,hl4,(World.putObj_heap_other (by omega)).trans hd3⟩,hRt (hRt hr2 hr3) (hRp _ _ _ _ hl3 rfl),?_,fun j o hj ho=> ?_⟩
   ·have h1:=hk3.size;simp at h1 ⊢;exact h1
   by_cases hjl:j=w.heap.size+1
   ·subst hjl;rw[hl] at hj;cases hj;exact hl4
   exact(World.putObj_heap_other hjl).trans (hk3.same j o ((World.putObj_heap_other hjl).trans hj) ho)
  |ret=>exact hp.elim
  |exit id=>exact hp.elim
  |goto t=>exact hp.elim
  |panic ch=>exact hp.elim
  |outgrown=>exact hp.elim
 rintro e W2 ⟨⟨v,rfl⟩,xs,hS,hi,hl,hd⟩;have hrun:=run_endLoop (P:=P) hl (by rw[hrc];simp);have hpn:(rc .ready).pending=none:=by rw[hrc]
 rw[hpn] at hrun;refine⟨none,_,hrun,?_⟩;exact hdone _ xs _ (af _) hS (hI.putObj _ hi (by omega) hl rfl) ((World.putObj_heap_other (by omega)).trans hd)
structure KC (w w':World):Prop where
 same:∀(b:Nat) (cs:Array Value) (t:TypeId) (fz:Nat×Nat),w.heap[b]? =some (.cells cs t fz)->t≠5->t≠130->w'.heap[b]? =some (.cells cs t fz)
 size:w.heap.size<=w'.heap.size
theorem KC.trans {a b c:World}(h:KC a b)(k:KC b c):KC a c:=⟨fun x cs t fz hx h1 h2=>k.same x cs t fz (h.same x cs t fz hx h1 h2) h1 h2,nt h.size k.size⟩
theorem KC.put (W:World)(l:Nat)(o o':Obj)(h:W.heap[l]? =some o)(hc:o.isCells=false):KC W (W.putObj l o'):=by
 refine⟨fun b cs t fz hb _ _=> ?_,by simp⟩;have hne:b≠l:=by rintro rfl;rw[h] at hb;cases hb;cases hc
 exact(World.putObj_heap_other hne).trans hb
theorem KP.kc {w w':World}(h:KP w w'):KC w w':=⟨fun b cs t fz hb h1 h2=>h.same b _ hb ⟨h1,h2⟩,h.size⟩
theorem KP.others {w w':World}(h:KP w w'):KeepsOthers w w':=⟨h.size,fun k o hk hc=>h.same k o hk (by cases o<;>first|trivial|cases hc)⟩
theorem KC.bk {w w':World}(h:KC w w'){g:Nat}{t:TypeId}{cs:Array Value}(hb:Bk w g t cs)(h1:t≠5)(h2:t≠130):Bk w' g t cs:=h.same g cs t (0,0) hb h1 h2
abbrev Bf:=Nat×Nat×Nat×Nat
def UC (x:Bf):Array Value:= #[.int .i64 (x.1:Int),.slice (some ⟨x.2.2.2,x.2.1*3,none⟩) (x.2.2.1+1 - x.2.1) (x.2.2.1+1 - x.2.1)]
def GU (g:Nat)(l:List (Nat×Nat×Nat)):List Bf:=l.map (fun p=>(p.1,p.2.1,p.2.2,g))
def VC (n:Nat)(cs:List Value)(es:List Int)(pre:List Bf)(x:Bf)(W:World):Prop:=pre++[x]<+:GU x.2.2.2 (oh n 0 0 es)/\x.2.1<=x.2.2.1/\x.2.2.1<n/\RdT W 139 (some ⟨x.2.2.2,0,none⟩) n 3 cs
def SC (n:Nat)(es:List Int)(xs:List Bf):Prop:=∃g,xs=GU g (oh n 0 0 es)
theorem VC.putObj (n:Nat)(cs:List Value)(es:List Int)(xs:List Bf)(x:Bf)(W:World)(l:Nat)(o o':Obj)(h:VC n cs es xs x W)(hl:W.heap[l]? =some o)(hc:o.isCells=false):VC n cs es xs x (W.putObj l o'):=⟨h.1,h.2.1,h.2.2.1,h.2.2.2.other (grownBy_putObj' W l o') (fun r e=>by cases e;exact⟨o,hl,hc⟩)⟩
theorem RoundIn.any {P:Program}{l m k:Nat}{f:FuncId}{tmps:Array Value}{assign body:Code}{w:World}{R:Ending->World->Prop}(h:RoundIn Fence.wide m P l f tmps assign body w R):RoundIn Fence.wide k P l f tmps assign body w R:=⟨h.1,fun c cs _=>h.2 c cs (fun _ hd=>by cases hd)⟩
abbrev J3:=Nat×Nat×Nat
def UK (b o:Nat)(x:J3):Array Value:= #[.int .i64 (x.1:Int),.slice (some ⟨b,o+x.2.1*3,none⟩) (x.2.2+1 - x.2.1) (x.2.2+1 - x.2.1)]
def VP (len:Nat)(es:List Int)(pre:List J3)(x:J3)(_:World):Prop:=pre++[x]<+:oh len 0 0 es/\x.2.1<=x.2.2/\x.2.2<len
def SP (len:Nat)(es:List Int)(xs:List J3):Prop:=xs=oh len 0 0 es
theorem KC.rdT {w w':World}(h:KC w w'){t:TypeId}{A:Option Addr}{n size:Nat}{cs:List Value}(hr:RdT w t A n size cs)(h1:t≠5)(h2:t≠130):RdT w' t A n size cs:=
 ⟨hr.1,fun hn=>by
  obtain⟨b,o,cur,e,hb,hc⟩:=hr.2 hn;exact⟨b,o,cur,e,h.bk hb h1 h2,hc⟩⟩
theorem KC.refl (w:World):KC w w:=(KP.refl w).kc
theorem KC.below {w w':World}(h:Below w.heap.size w w'):KC w w':=(KP.below h).kc
theorem Pe (w:World)(be br b o len cap m d:Nat)(A E:Option Addr)(es:List Int)(hbe:Bk w be 22 #[.slice E m d])(hbr:Bk w br 51 #[.slice A len cap])(hE:RdT w 3 E m 1 (aH es))
  (hAb:0<len->A=some ⟨b,o,none⟩) (hcap:len<=cap) (hlen:cap<=9223372036854775807) (hm:m<=9223372036854775807):
  Gives Tryz.prog 177 #[.pointer (some ⟨be,0,none⟩),.pointer (some ⟨br,0,none⟩)] (UK b o) (VP len es) KC (SP len es) 8 w:=by
 intro l n J W hn _ hW _ hY h0;have hcW:=KC.below hW;have ad5:=hcW.bk hbe (by decide) (by decide);have agd:=hcW.bk hbr (by decide) (by decide);have hE1:=hcW.rdT hE (by decide) (by decide);have hel:=hE1.rd.amr;have Hel:=hd0 hel;clear hel hbe hbr hE hW hcW;have HY:=hd0 hY;clear hY;have c0:W.cell? ⟨be,0,none⟩=some (.slice E m d):=ad5.cell 0;refine callsIn_of_wp Tryz.func177 rfl trivial ?_ rfl;simp only[Tryz.ntmps177,List.size_toArray,aT,ln,Nat.reduceAdd,Nat.reduceSub,Array.replicate_succ,Array.replicate_zero,List.push_toArray,List.append_toArray,an6,anL]
 gi_wp2
 gi_loopw [4,9] (fun f i wr=>∃(k q:Nat) (pre:List J3),k<=m/\q<=len/\i= .int .i64 k/\f= .int .i64 q/\J pre wr/\KC W wr/\Hid (pre++oh len k q (es.drop k)=oh len 0 0 es))
  (fun _ i _=>m - (intOf i).toNat)
 case atStart=>exact⟨0,0,[],by omega,by omega,rfl,rfl,h0,KC.refl _,rfl⟩
 case round=>
  obtain⟨k,q,pre,hk,hq,rfl,rfl,hJs,hnx,hpre⟩:=hrel;have aj3:wr.cell? ⟨be,0,none⟩=some (.slice E m d):=(hnx.bk ad5 (by decide) (by decide)).cell 0;have ajV:wr.cell? ⟨br,0,none⟩=some (.slice A len cap):=(hnx.bk agd (by decide) (by decide)).cell 0;clear c0;by_cases hlt:k<m
  ·obtain⟨be0,bo,e,rfl,-,he,hce⟩:=(hnx.rdT hE1 (by decide) (by decide)).rd.atI hlt;have hdrop:Hid (es.drop k=e::es.drop (k+1)):=by obtain⟨h1,h2⟩:=anv.1 he.out;have:=List.drop_eq_getElem_cons h1;rw[h2] at this;exact this
   by_cases hlow:e<(q:Int)
   ·have hd:decide (e<(q:Int))=true:=by simp[hlow]
    gi_wp2
    refine bodyPost_ret (results_none rfl _ _ _) rfl ?_;refine⟨⟨_,rfl⟩,pre,?_,hJs⟩;have:=hpre.out;rw[hdrop.out,oh,if_neg (by omega)] at this;show _=_;simpa using this
   have hd:decide (e<(q:Int))=false:=by simp;omega
   by_cases hhi:(len:Int)<=e
   ·gi_wp2
    refine bodyPost_ret (results_none rfl _ _ _) rfl ?_;refine⟨⟨_,rfl⟩,pre,?_,hJs⟩;have:=hpre.out;rw[hdrop.out,oh,if_neg (by omega)] at this;show _=_;simpa using this
   obtain⟨en,rfl⟩:∃en:Nat,e=en:=⟨e.toNat,by omega⟩
   have hqe:q<=en:=by omega
   have hel:en<len:=by omega
   obtain rfl:=hAb (by omega);have hnext:Hid ((pre++[((k,q,en):J3)])++oh len (k+1) (en+1) (es.drop (k+1))=oh len 0 0 es):=by have:=hpre.out;rw[hdrop.out,oh,if_pos (by omega)] at this;show _=_;simpa using this
   obtain⟨fn,tmps,assign,body,hy,hR⟩:=HY.out pre (k,q,en) wr hJs ⟨⟨_,hnext.out⟩,hqe,hel⟩;simp only[UK] at hy;clear hlow hhi
   gi_wp2
   refine⟨fun _=>nt (by decide) hn,?_⟩;refine(RoundIn.any hR).mono ?_;rintro e W3 ⟨rfl,hJ3,hk3,-⟩
   gi_wp2
   go_roundw
   case rel=>exact⟨k+1,en+1,_,by omega,by omega,by go_num,by go_num,hJ3,hnx.trans hk3,hnext⟩
   case measure=>simp[intOf];omega
  gi_wp2
  go_end0
  refine⟨⟨_,rfl⟩,pre,?_,hJs⟩;have:=hpre.out;rw[an3 (by have:=Hel.out;omega)] at this;show _=_;simpa [oh] using this
end
section
open Go.RowKit
attribute [-go_sem] Builtin.append_
theorem qU {w:World}{base:Nat}{e t:TypeId}{s:Nat}{v:Value}{n:Nat}{xs:List Value}(h:w.ownsRow base e s v n xs){g:Nat}{cs:Array Value}(hb:Bk w g t cs)(hne:t≠e)(i:Nat)(u:Value):(w.setCell ⟨g,i,none⟩ u).ownsRow base e s v n xs:=h.kept (dE w ⟨g,i,none⟩ u) (bY h hb hne)
theorem Iy (w:World)(Bd p gm cm:Nat)(gl:Gl)(s:PS)(rv:Rows)(K:Nat)(A:Option Addr)(n c:Nat)(ws:List P3)(t:B)(l:List B)(hP:PSt w Bd p gm cm gl s rv K)(hL:alg w A n ws)(hT:ag ws=t::l)(hK:K<=10000000000)(hc:n<=c):
  Calls Tryz.prog 90 #[.pointer (some ⟨p,0,none⟩),.slice A n c] w (akO w Bd p gm cm gl (K+n) (qF s l)):=by
 have hn:n=l.length+1:=by rw[<-hL.length];exact dF hT
 have hB:=hP.size;have hnn:=hL.few;cases l with
 |nil=>
  have HR:Hid (qF s []= .error 22):=rfl;simp only[ln] at hn;subst hn;clear hP hL hT hc;go_enter Tryz.func90,Tryz.ntmps90
  go_wp2;go_ret
  exact akO.bad HR.out (ant _ _)
 |cons t1 r=>
  obtain⟨A',hsub,hrd,hlen⟩:=hL.sub hc 2 2 rfl (by simp at hn;omega);obtain⟨b,o,rfl,hb,q1,hz1⟩:=hL.word (k:=1) (t:=t1) (by rw[hT];rfl) (d:=3) rfl;have HP:=hd0 hP;have hpb:p<w.heap.size:=hP.par.lt;obtain⟨A0,c0,hv⟩:=hP.slice (i:=3) (by decide);have kp:w.cell? ⟨p,4,none⟩=some (rv 3).v:=hP.par.cell 4;rw[hv] at kp;have hfew:=hP.few 3 (by decide);have qP:=hd0 (fun w rb er h=>yz w rb p er t1 h);have hrest:ag (ws.drop 2)=r:=by rw[CU,hT];rfl
  have hns:=hd0 (fun w1 rb (hr:Rdr w1 rb p (bD 0 t1)) (hb:Below w.heap.size w w1)=>vI w1 rb p (bD 0 t1) A' (n - 2) (c - 2) (ws.drop 2) hr (hrd.below hb) hlen (by omega));rw[hrest] at hns;have HR:Hid (qF s (t1::r)=fin (fD (bD 0 t1) r) {s with f:= {s.f with features:=s.f.features++[⟨t1,r.map aI⟩]}}):=rfl;have hfl:=hd0 (fun(w:World) S=>Dj w S (r.map aI) (FC r));have hlm:Hid (n - 2=(r.map aI).length):=by show _=_;simp at hn ⊢;omega
  have hn2:2<=n:=by simp at hn;omega
  have en:((n:Int)<2)=False:=by simp;omega
  clear hP hL hT hrd hlen hn hz1 hrest;go_enter Tryz.func90,Tryz.ntmps90
  go_wp2_with fail
  refine(gy w p).mono ?_;rintro e w1 ⟨rfl,hr1,hb1⟩;obtain⟨hc1,hf1⟩:=aj hb1;have L9:w1.cell? ⟨b,o+3+2,none⟩=some (.string ⟨t1.toArray⟩):=(hc1 _ _ hb).trans q1;have hl1:=hr1.lt;have hs1:=hb1.size;have hbl:b<w1.heap.size:=by omega
  have hbc:b≠w1.heap.size:=by omega
  have hpc:p≠w1.heap.size:=by omega
  have kP:=hd0 (hr1.alloc (.cells #[.string ⟨#[]⟩,.slice none 0 0] 97));have Hb1:=hd0 (hb1.alloc hs1 (.cells #[.string ⟨#[]⟩,.slice none 0 0] 97));have sO:Hid (Bk (w1.alloc (.cells #[.string ⟨#[]⟩,.slice none 0 0] 97)) w1.heap.size 97 #[.string ⟨#[]⟩,.slice none 0 0]):=Bk.new _ _ _;clear hr1 hb1 hc1 hf1;go_wp2_with fail
  refine(qP.out _ _ _ (by exact kP.out)).mono ?_;rintro e w2 ⟨rfl,hr2,hg2⟩;have hb2:=aZ Hb1.out hg2 (af _);have hk2:Bk w2 w1.heap.size 97 #[.string ⟨#[]⟩,.slice none 0 0]:=Bk.kept2 hg2 sO.out (by omega);have BN:w2.cell? ⟨w1.heap.size,0,none⟩=some (.string ⟨#[]⟩):=hk2.cell 0;have y2:=hk2.frozen 0;have hs2:=hk2.lt;have lM:Hid (Rdr (w2.setCell ⟨w1.heap.size,0,none⟩ (.string ⟨t1.toArray⟩)) w.heap.size p (bD 0 t1)):=Bk.far hr2 (by simp;omega) _;have Hb2:=hd0 (hb2.setCell (p:=⟨w1.heap.size,0,none⟩) (by simp;omega) (.string ⟨t1.toArray⟩));have lC:Hid (Bk (w2.setCell ⟨w1.heap.size,0,none⟩ (.string ⟨t1.toArray⟩)) w1.heap.size 97 #[.string ⟨t1.toArray⟩,.slice none 0 0]):=hk2.set 0 _;clear hr2 hg2 hb2 hk2;go_wp2_with fail
  refine(hns.out _ _ (by exact lM.out) (by exact Hb2.out)).mono ?_;rintro e w3 ⟨v,rfl,A4,c4,rfl,fJ,hr4,hg4⟩;have hb3:=aZ Hb2.out hg4 (af _);have hk3:Bk w3 w1.heap.size 97 #[.string ⟨t1.toArray⟩,.slice none 0 0]:=Bk.kept2 hg4 lC.out (by omega);have FP:w3.cell? ⟨w1.heap.size,1,none⟩=some (.slice none 0 0):=hk3.cell 1;have y3:=hk3.frozen 1;obtain⟨W1,hW1⟩:∃W1,w3.setCell ⟨w1.heap.size,1,none⟩ (.slice A4 (n - 2) c4)=W1:=⟨_,rfl⟩
  have lZ:Rdr W1 w.heap.size p (fD (bD 0 t1) r):=hW1 ▸ Bk.far hr4 (by simp;omega) _;have Hb3:Below w.heap.size w W1:=hW1 ▸ (hb3.setCell (p:=⟨w1.heap.size,1,none⟩) (by simp;omega) (.slice A4 (n - 2) c4));have jX:Bk W1 w1.heap.size 97 #[.string ⟨t1.toArray⟩,.slice A4 (n - 2) c4]:=hW1 ▸ hk3.set 1 _;have Xz:=qU fJ hk3 (by decide) 1 (.slice A4 (n - 2) c4);rw[hW1] at Xz;have aJ:=HP.out.below Hb3;have xK:W1.cell? ⟨p,4,none⟩=some (.slice A0 (rv 3).n c0):=((aj Hb3).1 _ _ hpb).trans kp;have vG:W1.cell? ⟨w1.heap.size,0,none⟩=some (.string ⟨t1.toArray⟩):=jX.cell 0;have xB:W1.cell? ⟨w1.heap.size,1,none⟩=some (.slice A4 (n - 2) c4):=jX.cell 1;have zp:p<W1.heap.size:=aJ.par.lt;have zc:w1.heap.size<W1.heap.size:=jX.lt;have hown:=aJ.live.own 3 (by decide);rw[hv] at hown;obtain⟨A5,c5,w9,hrun,aS,ax,bi⟩:=iy XU 27 W1 Bd _ c0 A0 _ #[.string ⟨t1.toArray⟩,.slice A4 (n - 2) c4] rfl hown (by simp[Value.oneCell']) (by omega) aJ.size;rw[<-hv] at ax bi;have bP:Bk w9 p jy (dW s rv gm cm):=(aJ.row (i:=3) (by decide) (r:=⟨.slice A5 ((rv 3).n+1) c5,_,_⟩) ax aS bi).1;have jJ:=Bk.grown lZ ax (aJ.live.own 3 (by decide)) (by decide);have x9:w9.cell? ⟨p,4,none⟩=some (rv 3).v:=bP.cell 4;have y9:=bP.frozen 4;have z9:w9.cell? ⟨w.heap.size,1,none⟩=some (.int .i64 (fD (bD 0 t1) r)):=jJ.cell 1;have hel:akR W1 (Fz W1 rv) [.string ⟨t1.toArray⟩,.slice A4 (n - 2) c4] ⟨t1,r.map aI⟩:=by rw[hlm.out] at Xz ⊢;refine⟨A4,c4,rfl,Sl.aly Xz (hfl.out _ _) (HP.out.fresh Xz ?_ (by decide)) (by decide)⟩;simp;omega
  have bK:=hd0 (PSt.amH (m:=1) (K':=K+n) aJ ax aS bi (ys:=[⟨t1,r.map aI⟩]) rfl (Fl.one (R:=akR) hel rfl) (by omega));have iD:=hd0 ((Hb3.mono hB).trans (aJ.alD (i:=3) (by decide) ax 4 (.slice A5 ((rv 3).n+1) c5) aJ.size));have HQ:=hd0 (KQ.below (cm:=cm) Hb3);clear hown aS ax bi bP jJ aJ hel Xz Hb3 lZ jX fJ hr4 hg4 hb3 hk3 lM Hb2 lC kP Hb1 sO;go_wp2_with fail
  try rw[hW1]
  go_region
  all_goals
   go_wp2;go_ret
   exact akO.fin HR.out iD.out (HQ.out.trans bK.out.2) bK.out.1
end
section
open Go.RowKit
attribute [-go_sem] Builtin.append_
theorem Yv (s:PS)(l:List B)(h:l.length≠4):pI s l= .error 22:=by
 unfold pI;split
 ·rfl
 split
 ·simp at h
 rfl
theorem OV (w:World)(Bd p gm cm:Nat)(gl:Gl)(s:PS)(rv:Rows)(K:Nat)(A:Option Addr)(n c:Nat)(ws:List P3)(t:B)(l:List B)(hP:PSt w Bd p gm cm gl s rv K)(hL:alg w A n ws)(hT:ag ws=t::l)(hK:K<=10000000000)(hc:n<=c){init:List akN}{g:akN}(hs:s.f.akJ=init++[g]){G n0 c9 q:Nat}(h0:(rv 0).v= .slice (some ⟨G,0,none⟩) n0 c9)(hq:q=init.length*9):
  Calls Tryz.prog 84 #[.pointer (some ⟨p,0,none⟩),.slice A n c,.pointer (some ⟨G,q,none⟩)] w (akO w Bd p gm cm gl (K+n) (pI s l)):=by
 have hn:n=l.length+1:=by rw[<-hL.length];exact dF hT
 have hB:=hP.size;by_cases h1:l.length=4
 ·obtain⟨t1,t2,t3,t4,rfl⟩:∃t1 t2 t3 t4,l=[t1,t2,t3,t4]:=by
   match l,h1 with
   |[a,b,c,d],_=>exact⟨a,b,c,d,rfl⟩
  obtain⟨A',hsub,hrd,hlen⟩:=hL.sub hc 1 1 rfl (by omega);simp only[aT,ln] at hn;subst hn;have HP:=hd0 hP;obtain⟨G',c9',ci,gv,-,-,hGb,ku,AX,uP⟩:=hP.alC hs;obtain⟨rfl,hn0,rfl⟩:G'=G/\init.length+1=n0/\c9'=c9:=by rw[gv] at h0;simpa using h0
  have hpb:G'<w.heap.size:=hGb;obtain⟨A0,c0,hv⟩:=hP.slice (i:=12) (by decide);have kp:w.cell? ⟨G',q+7,none⟩=some (rv 12).v:=by rw[hq];exact ku 7 (by decide)
  rw[hv] at kp;have hfew:=hP.few 12 (by decide);have HR:Hid (pI s [t1,t2,t3,t4]=fin (fD 0 [t1,t2,t3,t4]) {s with f:= {s.f with akJ:=init++[{g with deltas:=g.deltas++[⟨aI t1,aI t2,aI t3,aI t4⟩]}]}}):=by show _=_;unfold pI;rw[if_neg (xy hs)];simp only;rw[uT s _ hs]
  have Hs:=hd0 hs;have Hq:=hd0 hq;have H0:=hd0 h0;have vk:=hd0 uP;have HI1:=hd0 (dH t1);have HI2:=hd0 (dH t2);have HI3:=hd0 (dH t3);have HI4:=hd0 (dH t4);have hns:=hd0 (fun w1 rb (hr:Rdr w1 rb p 0) (hb:Below w.heap.size w w1)=>vI w1 rb p 0 A' (0+1+1+1+1+1 - 1) (c - 1) (ws.drop 1) hr (hrd.below hb) hlen (by omega));rw[jO hT] at hns;have hcI:Hid (aH (List.map aI [t1,t2,t3,t4])=[.int .i64 (aI t1),.int .i64 (aI t2),.int .i64 (aI t3),.int .i64 (aI t4)]):=rfl;rw[hcI.out] at hns;generalize fD 0 [t1,t2,t3,t4]=er at*
  generalize aI t1=v1 at*
  generalize aI t2=v2 at*
  generalize aI t3=v3 at*
  generalize aI t4=v4 at*
  clear hP hL hT hrd hlen hs hq h0 gv ku AX uP hn0 hcI h1;simp only[aoc,Nat.reduceAdd,Nat.reduceSub] at hsub hns hK ⊢;go_enter Tryz.func84,Tryz.ntmps84
  go_wp2_with fail
  refine(gy w p).mono ?_;rintro e w1 ⟨rfl,hr1,hb1⟩;have hz1:=hb1.size;go_wp2_with fail
  refine(hns.out _ _ hr1 hb1).mono ?_;rintro e w2 ⟨v,rfl,A4,c4,rfl,fJ,hr4,hg4⟩;have hb2:=aZ hb1 hg4 (af _);obtain⟨b4,YR,rfl,hk4,hx4⟩:∃b4 YR,A4=some ⟨b4,0,none⟩/\Bk w2 b4 3 YR/\∀j u,[Value.int .i64 v1,.int .i64 v2,.int .i64 v3,.int .i64 v4][j]? =some u->YR[j]? =some u:=by
   rcases fJ.2 with⟨_,h⟩|⟨g,cap,cur,e,_,hh,_,_,_,htk⟩
   ·omega
   simp only[aon,true_and] at e;obtain⟨rfl,-⟩:=e;refine⟨g,cur,rfl,hh,fun j u hu=> ?_⟩;rw[<-htk,anY] at hu;split at hu
   ·simpa using hu
   cases hu
  have m0:w2.cell? ⟨b4,0,none⟩=some (.int .i64 v1):=(hk4.cell 0).trans (hx4 0 _ rfl);have m1:w2.cell? ⟨b4,1,none⟩=some (.int .i64 v2):=(hk4.cell 1).trans (hx4 1 _ rfl);have m2:w2.cell? ⟨b4,2,none⟩=some (.int .i64 v3):=(hk4.cell 2).trans (hx4 2 _ rfl);have m3:w2.cell? ⟨b4,3,none⟩=some (.int .i64 v4):=(hk4.cell 3).trans (hx4 3 _ rfl);have hb4:b4<w2.heap.size:=hk4.lt;have k2:w2.cell? ⟨G',q+7,none⟩=some (.slice A0 (rv 12).n c0):=((aj hb2).1 _ _ hpb).trans kp;have hG2:G'<w2.heap.size:=anD hpb hb2.size;have aJ:=HP.out.below hb2;have hown:=aJ.live.own 12 (by decide);rw[hv] at hown;obtain⟨A5,c5,w9,hrun,aS,ax,bi⟩:=iy QG 56 w2 Bd _ c0 A0 _ #[.int .i64 v1,.int .i64 v2,.int .i64 v3,.int .i64 v4] rfl hown (by simp[Value.oneCell']) (by omega) aJ.size;rw[<-hv] at ax bi;obtain⟨JG,bP,tK⟩:∃cur,Bk w9 G' 59 cur/\cur[q+7]? =some (rv 12).v:=by obtain⟨cur,dB⟩:=vk.out;exact⟨cur,Bk.grown (dB.keep (hb2.block G' hpb)) ax (aJ.live.own 12 (by decide)) (by decide),by rw[<-dB.cell,kp,hv]⟩
  have jJ:=Bk.grown hr4 ax (aJ.live.own 12 (by decide)) (by decide);have x9:w9.cell? ⟨G',q+7,none⟩=some (rv 12).v:=(bP.cell _).trans tK;have y9:=bP.frozen (q+7);have z9:w9.cell? ⟨w.heap.size,1,none⟩=some (.int .i64 er):=jJ.cell 1;have bK:=hd0 (PSt.amA (m:=1) (K':=K+5) aJ Hs.out H0.out ax aS bi (ys:=[⟨v1,v2,v3,v4⟩]) rfl (Fl.one (R:=ak2) (⟨rfl,HI1.out,HI2.out,HI3.out,HI4.out⟩) rfl) (by omega));rw[<-Hq.out] at bK;have iD:=hd0 (hb2.mono hB);have HQ:=hd0 (KQ.below (cm:=cm) hb2);clear hown aS ax bi bP jJ aJ hb2 fJ hr4 hg4 hb1 hr1 hk4 hx4 tK;go_wp2_with fail
  go_region
  all_goals
   go_wp2;go_ret
   obtain⟨rv',g1,g2,g3,-⟩:=bK.out;exact akO.fin HR.out (iD.out.trans g3) (HQ.out.trans g2) g1
 have HR:=hd0 (Yv s l h1);have e1:((n:Int)==5)=false:=by simp;omega
 have e2:((n:Int) !=5)=true:=by simp;omega
 clear hP hL hT h1 hn hs h0 hq;go_enter Tryz.func84,Tryz.ntmps84
 go_wp2;go_ret
 exact akO.bad HR.out (ant _ _)
end
section
open Go.RowKit Go.Shelf
attribute [local go_sem] Oper.semAt_some
def CI (J:List Bf->World->Prop)(g:Nat)(W0:World)(pre:List J3)(W:World):Prop:=J (GU g pre) W/\KC W0 W
theorem acH {J:List Bf->World->Prop}{g B B':Nat}{W0:World}(hJ:OwnFrom B J)(hB:B<=B'):OwnFrom B' (CI J g W0):=by
 intro s A C row hs hg hr;have hr':∀r,row=some r->∃o:Obj,A.heap[r]? =some o/\o.isCells=false:=fun r e=>(hr r e).2
 refine⟨hJ _ A C row hs.1 hg (fun r e=>⟨nt hB (hr r e).1,(hr r e).2⟩),fun b cs t fz hb h1 h2=> ?_,nt hs.2.size hg.size⟩;have h3:=hs.2.same b cs t fz hb h1 h2;exact(grownBy_keeps_cells hg hr' h3 rfl).trans h3
theorem aag {w:World}{base n c size:Nat}{e:TypeId}{A:Option Addr}{xs:List Value}(h:w.ownsRow base e size (.slice A n c) n xs):n<=c/\c<=9223372036854775807:=by
 rcases h.2 with⟨h,h0⟩|⟨g',cap',cur,h,_,_,h3,h4,_⟩
 ·simp only[aon] at h;omega
 simp only[aon,true_and] at h;obtain⟨_,rfl⟩:=h;simp only[maxLen] at h4;omega
theorem Ve (w:World)(n m pb eb cv cu:Nat)(Av Eu:Option Addr)(cs:List Value)(h1c:∀u∈cs,u.oneCell'=true)(es:List Int)(hP:Bk w pb 51 #[.slice Av n cv])(hrow:Rd w w.heap.size Av n 3 cs)(hQ:Bk w eb 22 #[.slice Eu m cu])(hEr:RdT w 3 Eu m 1 (aH es))
  (hn:n<=100000000000) (hm:m<=100000000000):
  Gives Tryz.prog 144 #[.pointer (some ⟨pb,0,none⟩),.pointer (some ⟨eb,0,none⟩)] UC (VC n cs es) KC (SC n es) 10 w:=by
 intro l k J W hk hl hW hJ hY h0;have hP1:=hP.below hW;have hQ1:=hQ.below hW;have hr1:=hrow.below hW (af _);have hE1:=hEr.below hW;have hs1:=hW.size;have p0:W.cell? ⟨pb,0,none⟩=some (.slice Av n cv):=hP1.cell 0;have e0:W.cell? ⟨eb,0,none⟩=some (.slice Eu m cu):=hQ1.cell 0;have zp:=hP1.lt;have ze:=hQ1.lt;clear hP hQ hrow hEr;refine callsIn_of_wp_marks Tryz.func144 rfl trivial ?_ rfl;simp only[Tryz.ntmps144,List.size_toArray,aT,ln,Nat.reduceAdd,Nat.reduceSub,Array.replicate_succ,Array.replicate_zero,List.push_toArray,List.append_toArray,an6,anL]
 gi_wp2_with fail
 gi_region_with (first
  |(refine⟨trivial,fun _=>nt (by decide) hk,?_⟩;gi_at_call 142;refine(callsIn_wide.2 (Xr _ w.heap.size Av n cv cs h1c ((hr1.alloc (by omega) _).drew) (by simp;omega) (by omega))).mono ?_;rintro e w1 ⟨v,rfl,hown,YN⟩;have hb1:=jT YN;have e1:=ae hb1 (bZ _ e0);obtain⟨A1,c1,rfl,-⟩:=Rd.alj hown)
  |(refine⟨trivial,fun _=>nt (by decide) hk,?_⟩;gi_at_call 145;refine(callsIn_wide.2 (ND A1 Eu n c1 m cu w1)).mono ?_;rintro e w' ⟨rfl,rfl⟩))
 all_goals
  obtain⟨g,hg⟩:∃g,0<n->A1=some ⟨g,0,none⟩:=by
   by_cases h:0<n
   ·obtain⟨g,cap,hv,_,_⟩:=hown.form h;simp only[aon,true_and] at hv;exact⟨g,fun _=>hv.1⟩
   exact⟨0,fun h'=>absurd h' h⟩
  have hcap:=aag hown;have hY1:Bk w1 W.heap.size 220 #[.func (.yield l) #[] #[]]:=(bk1 W (.func (.yield l) #[] #[]) 220).below hb1;have hs2:=hY1.lt;have hE2:=(hE1.below ((ant _ _).alloc (af _) (.cells #[.func (.yield l) #[] #[]] 220))).below hb1
  gi_wp2_with fail
  obtain⟨W0,hW0⟩:∃W0,(w1.alloc (.cells #[.slice A1 n c1] 51)).alloc (.cells #[.slice Eu m cu] 22)=W0:=⟨_,rfl⟩
  have hz0:W0.heap.size=w1.heap.size+2:=by rw[<-hW0];simp
  have hb0:Below w1.heap.size w1 W0:=by rw[<-hW0];exact((ant _ _).alloc (af _) _).alloc (by simp) _
  have hcr:Bk W0 w1.heap.size 51 #[.slice A1 n c1]:=by rw[<-hW0];exact(bk1 _ _ _).alloc _
  have hce:Bk W0 (w1.heap.size+1) 22 #[.slice Eu m cu]:=by rw[<-hW0];exact bk2 _ _ _ _
  have hE3:=hE2.below hb0;have hY3:=hY1.below hb0;have hrow3:RdT W0 139 A1 n 3 cs:=(jl hown).below hb0;have hJ0:J [] W0:=by have a1:=hJ.alloc (.cells #[.func (.yield l) #[] #[]] 220) h0;have a2:J [] w1:=hJ [] _ w1 none a1 (aB hb1 none) (fun r e=>by cases e);exact hJ [] _ W0 none a2 (aB hb0 none) (fun r e=>by cases e)
  rw[hW0];clear hW0;have HY:=hd0 hY;have HJ:=hd0 hJ;clear hY hJ;refine xP (d:=8) (by omega) (gf:=177) (lb:= #[.pointer (some ⟨w1.heap.size+1,0,none⟩),.pointer (some ⟨w1.heap.size,0,none⟩)]) rfl (enters_of Tryz.func177 (by kernel_rfl) rfl) (fun _=>rfl)
   (Pe W0 _ _ g 0 n c1 m cu A1 Eu es hce hcr hE3 hg hcap.1 hcap.2 (by omega))
   (fun h k=>h.trans k) (fun W l o o' h hc=>KC.put W l o o' h hc) (fun _ _ _ _ _ _ h _ _=>h)
   (CI J g W0) (acH HJ.out (by omega)) ⟨hJ0,KC.refl _⟩
   (fun x=> {tmps:= #[.func (.yield l) #[] #[],.pointer (some ⟨pb,0,none⟩),.pointer (some ⟨eb,0,none⟩),.pointer (some ⟨W.heap.size,0,none⟩),.int .i64 (x.1:Int),.slice (some ⟨g,x.2.1*3,none⟩) (x.2.2+1 - x.2.1) (x.2.2+1 - x.2.1),.slice Av n cv,.slice A1 n c1,.slice Eu m cu,.func (.func 177) #[] #[.pointer (some ⟨w1.heap.size+1,0,none⟩),.pointer (some ⟨w1.heap.size,0,none⟩)],.int .i64 (x.1:Int),.slice (some ⟨g,x.2.1*3,none⟩) (x.2.2+1 - x.2.1) (x.2.2+1 - x.2.1),undef,undef,undef,undef,undef],defers:=[]}) ?assign ?body ?done
  case assign=>
   intro l2 x W2 K hK;simp only[UK,aoc]
   gi_wp2
   exact hK
  case body=>
   rintro l2 pre ⟨idx,f,e⟩ W2 ⟨hJ2,hK2⟩ ⟨hpx,hfe,hen⟩;dsimp only at hfe hen ⊢;have ajd:W2.cell? ⟨W.heap.size,0,none⟩=some (.func (.yield l) #[] #[]):=(hK2.bk hY3 (by decide) (by decide)).cell 0;obtain rfl:=hg (by omega);have hv:VC n cs es (GU g pre) (idx,f,e,g) W2:=by refine⟨?_,hfe,hen,hK2.rdT hrow3 (by decide) (by decide)⟩;have:=hpx.map (fun p:J3=>(p.1,p.2.1,p.2.2,g));simpa [GU] using this
   obtain⟨fn,tmps,assign,body,hy,hR⟩:=HY.out _ (idx,f,e,g) W2 hJ2 hv;simp only[UC] at hy;clear hpx hv
   gi_wp2
   refine⟨rfl,?_⟩;refine(RoundIn.wide hR).mono ?_;rintro e3 W3 ⟨rfl,hJ3,og,hK3⟩;have hout:Hid (CI J g W0 (pre++[(idx,f,e)]) W3/\KC W2 W3/\KeepsOthers W2 W3):=by refine⟨⟨by simpa [GU] using hJ3,hK2.trans og⟩,og,hK3⟩
   clear hJ3 og hK3
   gi_wp2
   exact hout.out
  case done=>
   rintro D ys W2 hD hS ⟨hJ2,hK2⟩ hK;have HS:=hd0 hS;clear hS
   gi_wp2
   refine⟨by simp,.inl ⟨_,_,rfl,run_takeDeferred hK,?_⟩⟩;refine⟨_,results_none rfl _ _ _,⟨_,rfl⟩,_,⟨g,?_⟩,HJ.out.putObj _ hJ2 (by omega) hK rfl⟩;have h:=HS.out;unfold SP at h;rw[<-h]
end
end Go.Proofs.YtkijckccfookeaaGreatDoor
