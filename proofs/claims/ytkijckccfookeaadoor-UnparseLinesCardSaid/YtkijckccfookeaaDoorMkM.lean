/- Lemmas. -/
import Derived.Test.YtkijckccfookeaaDoorMkGl
import Derived.Test.YtkijckccfookeaaDoorMkAx
import Derived.Test.YtkijckccfookeaaDoorMkLk
set_option linter.unusedVariables false
set_option linter.unusedSimpArgs false
set_option maxRecDepth 100000
set_option maxHeartbeats 32000000
namespace Go.Proofs.YtkijckccfookeaaDoor
open Go.RowKit
attribute [-go_sem] Builtin.append_
abbrev iM:TypeId:=32
abbrev eF:TypeId:=86
abbrev jB:TypeId:=89
abbrev uM:TypeId:=55
abbrev Cf:TypeId:=74
abbrev vW:TypeId:=82
theorem AV (t:TypeId)(h:(Tryd.prog.info? t).map (·.size)=some 1)(w:World):(sizeOf t).run Tryd.prog w= .ok 1 w:=by obtain⟨i,hi,hs⟩:=Option.map_eq_some_iff.1 h;simp[sizeOf,typeInfo,hi,hs]
theorem jb (t:TypeId)(h:(Tryd.prog.info? t).map (·.size)=some 1)(A:Option Addr)(n c:Nat)(a:Addr)(w:World):(storeVar t a (.slice A n c)).run Tryd.prog w=(store a (.slice A n c)).run Tryd.prog w:=by
 have hz:=AV t h
 go_simp
theorem Qo (t:TypeId)(h:(Tryd.prog.info? t).map (·.size)=some 1)(k:IntKind)(z:Int)(a:Addr)(w:World):(storeVar t a (.int k z)).run Tryd.prog w=(store a (.int k z)).run Tryd.prog w:=by
 have hz:=AV t h
 go_simp
attribute [-go_sem] storeVar
theorem G9 (w:World):Calls Tryd.prog 39 #[] w fun e w'=>e= .returned (.slice (some ⟨w.heap.size,0,none⟩) 16 16)/\w'=w.alloc (.cells #[.int .i64 97,.int .i64 98,.int .i64 99,.int .i64 102,.int .i64 105,.int .i64 108,.int .i64 57345,.int .i64 57346,.int .i64 57601,.int .i64 57602,.int .i64 57603,.int .i64 57857,.int .i64 57861,.int .i64 58113,.int .i64 58114,.int .i64 58369] ax):=by
 go_enter Tryd.func39,Tryd.ntmps39
 go_wp2;go_ret
 exact⟨rfl,rfl⟩
def QP:List B:=[[108,105,103,97],[105,115,111,108],[105,110,105,116],[109,101,100,105],[102,105,110,97],[107,101,114,110],[109,97,114,107],[99,97,108,116]]
def nY:Array Value:=(QP.map fun(s:B)=>Value.string ⟨s.toArray⟩).toArray
theorem ES (w:World):Calls Tryd.prog 41 #[] w fun e w'=>e= .returned (.slice (some ⟨w.heap.size,0,none⟩) 8 8)/\w'=w.alloc (.cells nY 9):=by
 go_enter Tryd.func41,Tryd.ntmps41
 go_wp2;go_ret
 exact⟨rfl,rfl⟩
def zeroFn:Array Value:= #[.int .i64 0,.slice none 0 0,.slice none 0 0,.slice none 0 0,.slice none 0 0,.slice none 0 0,.slice none 0 0,.slice none 0 0,.slice none 0 0]
def C9 (t:aag):List Value:=[.int .i64 t.start,.int .i64 t.peak,.int .i64 t.stop]
def yz (l:List aag):List Value:=l.flatMap C9
theorem Hl (w:World)(S:Bs)(l:List aag)(h:∀x∈l,I64 x.start/\I64 x.peak/\I64 x.stop):Fl aaq 3 w S (yz l) l:=jX w S C9 l (fun _ _=>rfl) (fun x hx=>⟨rfl,h x hx⟩)
theorem MS.ZF {Wf:World}{m:Nat}{F:Nat->Value}{lp lp2:Int}{A1:Option Addr}{c1:Nat}{cells:List Value}{gs:List Zy}{P:World->Prop}{hi top:Nat}{wr w2:World}{g:Zy}{nc:List Value}{B:Option Addr}{d:Nat}(h:MS ZK Wf m F lp 1 dR uq 9 A1 c1 cells gs P hi top wr)
  (hm:Mk w2 m (bu F 1 (.slice B (gs.length+1) d)) lp2) (ho:w2.ownsRow hi dR 9 (.slice B (gs.length+1) d) (gs.length+1) (cells++nc)) (hn:nc.length=9) (hg:ZK w2 (TR [mQ,ax,kW,kR,gV,iO] wr.heap.size w2.heap.size w2) nc g) (hv:Mv2 m (Value.slice A1 gs.length c1).ownBlock wr w2):
  MS ZK Wf m F lp2 1 dR uq 9 B d (cells++nc) (gs++[g]) P hi w2.heap.size w2:=by
 obtain⟨b1,b2,b3,b4⟩:=h.bnd;have hz:=hv.size;have hl:(gs++[g]).length=gs.length+1:=by simp
 have hlt:∀x,(Value.slice A1 gs.length c1).ownBlock=some x->hi<=x:=fun x hx=>(h.row.lt x hx).1
 refine⟨by rw[hl];exact hm,by rw[hl];exact ho,?_,hv.fz (by omega) hlt h.fz,?_,b1,b2,by omega,ag _⟩
 ·have key:∀b,TR uq hi top wr b->w2.heap[b]? =wr.heap[b]? :=fun b ⟨h1,cs,t,hk,htt⟩=>hv.block b hk.lt (by omega) (fun e=>by
   obtain⟨cur,hb⟩:=dh h.row b e;have:=(iT hb hk).1;subst this;exact absurd htt (by decide))
  have h1:Fl ZK 9 w2 (TR uq hi top w2) cells gs:=h.fl.moved ZK.ok ⟨key,fun b hb=>by
   obtain⟨h1,cs,t,hk,htt⟩:=hb;exact⟨h1,cs,t,(key b ⟨h1,cs,t,hk,htt⟩).trans hk,htt⟩⟩
  exact(h1.mono ZK.ok (TR.sub (fun _ h=>h) (ag _) (by omega))).append (Fl.one (ZK.ok.mono hg (TR.sub (fun _ h=>h) (by omega) (ag _))) hn)
 exact⟨hv.os.trans h.low.os,hv.tape.trans h.low.tape,hv.output.trans h.low.output,nt h.low.size hz,fun i hi'=>(hv.block i (by have:=h.low.size;omega) (by omega) (fun e=>by have:=hlt i e;omega)).trans (h.low.block i hi')⟩
structure TG (Wf:World)(m:Nat)(F:Nat->Value)(P:World->Prop)(hB rb:Nat)(A6:Option Addr)(c6:Nat)(cells:List Value)(rg:List Region)(ts:List aag)(A:Option Addr)(c:Nat)(wr:World):Prop where
 ms:MS ZJ Wf m F 0 6 jB [eF] 1 A6 c6 cells rg P hB rb wr
 bk:Bk wr rb jB #[.slice A ts.length c]
 row:wr.ownsRow (rb+1) eF 3 (.slice A ts.length c) ts.length (yz ts)
 ne:∀x,(Value.slice A6 rg.length c6).ownBlock=some x->x≠rb
section
variable {Wf:World} {m:Nat} {F:Nat->Value} {P:World->Prop} {hB rb:Nat} {A6:Option Addr} {c6:Nat} {cells:List Value} {rg:List Region} {ts:List aag} {A:Option Addr} {c:Nat} {wr w2:World}
theorem TG.next (h:TG Wf m F P hB rb A6 c6 cells rg ts A c wr)(hm:Mk w2 m (bu F 6 (.slice A6 rg.length c6)) 0)(hv:Mv m wr w2):TG Wf m F P hB rb A6 c6 cells rg ts A c w2:=⟨h.ms.next ZJ.ok (by decide) hm hv,(Sp.next h.ms.Zv hv).bk h.bk (by decide),(Sp.next h.ms.Zv hv).own h.row (by decide),h.ne⟩
theorem TG.below (h:TG Wf m F P hB rb A6 c6 cells rg ts A c wr)(hb:Below wr.heap.size wr w2):TG Wf m F P hB rb A6 c6 cells rg ts A c w2:=by have s:Sp m gm wr w2:=Sp.below hb;exact⟨h.ms.below ZJ.ok hb,s.bk h.bk (by decide),s.own h.row (by decide),h.ne⟩
theorem TG.drew (h:TG Wf m F P hB rb A6 c6 cells rg ts A c wr):TG Wf m F P hB rb A6 c6 cells rg ts A c wr.drew:=h.below (aa0 _ _).drew
theorem TG.alloc (h:TG Wf m F P hB rb A6 c6 cells rg ts A c wr)(o:Obj):TG Wf m F P hB rb A6 c6 cells rg ts A c (wr.alloc o):=h.below ((aa0 _ _).alloc (ag _) o)
theorem TG.more (h:TG Wf m F P hB rb A6 c6 cells rg ts A c wr)(hl:ts.length<=1000)(v1 v2 v3:Int):
  ∃B d w9,(Builtin.append_ #[87,87] 87 #[.slice A ts.length c,.slice (some ⟨wr.heap.size,0,none⟩) 1 1]).run Tryd.prog (wr.alloc (.cells #[.int .i64 v1,.int .i64 v2,.int .i64 v3] eF))= .ok (.slice B (ts.length+1) d) w9/\
   w9.cell? ⟨rb,0,none⟩=some (.slice A ts.length c)/\w9.frozen? ⟨rb,0,none⟩=false/\rb<w9.heap.size/\TG Wf m F P hB rb A6 c6 cells rg (ts++[⟨v1,v2,v3⟩]) B d (w9.setCell ⟨rb,0,none⟩ (.slice B (ts.length+1) d)):=by
 have hrb:=h.bk.lt;obtain⟨b1,b2,b3,b4⟩:=h.ms.bnd;obtain⟨B,d,w9,hrun,bG,bD,nH⟩:=di NZ 87 wr (rb+1) _ c A _ #[.int .i64 v1,.int .i64 v2,.int .i64 v3] rfl h.row (by simp[Value.oneCell']) (by omega) (by omega);have s:Sp m eF wr w9:=Sp.push h.row (by omega) bD;have AP:=s.bk h.bk (by decide);have V9:=h.ms.push ZJ.ok h.row (by omega) bD (by decide) (by decide);have Ip:w9.grownBy (w9.setCell ⟨rb,0,none⟩ (.slice B (ts.length+1) d)) (some rb):=aV (World.grownBy.refl _ _) (.inl rfl) _;have s10:Sp m jB w9 (w9.setCell ⟨rb,0,none⟩ (.slice B (ts.length+1) d)):=Sp.set AP (by omega) 0 _;have hn:(ts++[(⟨v1,v2,v3⟩:aag)]).length=ts.length+1:=by simp
 refine⟨B,d,w9,hrun,AP.cell 0,AP.frozen 0,AP.lt,V9.box ZJ.ok Ip (ag _) AP h.ne (by decide),?_,?_,h.ne⟩
 ·rw[hn];exact AP.set 0 _
 rw[hn];have:=s10.own bG (by decide);simpa [yz,C9] using this
end
theorem AB (x:Nat)(h:x<5):∃a b c:Int,(#[.int .i64 0,.int .i64 64,.int .i64 64,.int .i64 0,.int .i64 32,.int .i64 64,.int .i64 (-64),.int .i64 (-64),.int .i64 0,.int .i64 (-1),.int .i64 0,.int .i64 5,.int .i64 10,.int .i64 32,.int .i64 50]:Array Value)[x*3]? =some (.int .i64 a)/\(#[.int .i64 0,.int .i64 64,.int .i64 64,.int .i64 0,.int .i64 32,.int .i64 64,.int .i64 (-64),.int .i64 (-64),.int .i64 0,.int .i64 (-1),.int .i64 0,.int .i64 5,.int .i64 10,.int .i64 32,.int .i64 50]:Array Value)[x*3+1]? =some (.int .i64 b)/\(#[.int .i64 0,.int .i64 64,.int .i64 64,.int .i64 0,.int .i64 32,.int .i64 64,.int .i64 (-64),.int .i64 (-64),.int .i64 0,.int .i64 (-1),.int .i64 0,.int .i64 5,.int .i64 10,.int .i64 32,.int .i64 50]:Array Value)[x*3+2]? =some (.int .i64 c)/\N9 a/\N9 b/\N9 c:=by
 have:x=0\/x=1\/x=2\/x=3\/x=4:=by omega
 unfold N9;rcases this with rfl|rfl|rfl|rfl|rfl<;>exact⟨_,_,_,rfl,rfl,rfl,by omega,by omega,by omega⟩
theorem KI (k:Nat)(h:k<16):∃u:Int,(#[.int .i64 97,.int .i64 98,.int .i64 99,.int .i64 102,.int .i64 105,.int .i64 108,.int .i64 57345,.int .i64 57346,.int .i64 57601,.int .i64 57602,.int .i64 57603,.int .i64 57857,.int .i64 57861,.int .i64 58113,.int .i64 58114,.int .i64 58369]:Array Value)[k]? =some (.int .i64 u)/\N9 u:=by
 have:k=0\/k=1\/k=2\/k=3\/k=4\/k=5\/k=6\/k=7\/k=8\/k=9\/k=10\/k=11\/k=12\/k=13\/k=14\/k=15:=by omega
 unfold N9;rcases this with rfl|rfl|rfl|rfl|rfl|rfl|rfl|rfl|rfl|rfl|rfl|rfl|rfl|rfl|rfl|rfl<;>exact⟨_,rfl,by omega,by omega⟩
theorem Lu (k:Nat)(h:k<8):∃s:B,nY[k]? =some (.string ⟨s.toArray⟩)/\nameB s=true:=by
 have:k=0\/k=1\/k=2\/k=3\/k=4\/k=5\/k=6\/k=7:=by omega
 rcases this with rfl|rfl|rfl|rfl|rfl|rfl|rfl|rfl<;>exact⟨_,rfl,by decide⟩
theorem uD:(Tryd.prog.info? iM).map (·.size)=some 9:=by kernel_rfl
theorem yD {W:World}{g:Nat}{cs:Array Value}{tmps:Array Value}(hb:W.heap[g]? =some (.cells cs iM (0,0)))(hsz:cs.size=9)(h2:tmps.getD 2 undef= .pointer (some ⟨g,0,none⟩):=by rfl):(results Tryd.f19 tmps).run Tryd.prog W= .ok (.agg cs) W:=by rw[iY (fn:=Tryd.f19) (p:=2) (ty:=iM) rfl,h2];have:=run_loadVar_row (P:=Tryd.prog) W g iM iM cs (0,0) _ hb Tryd.underlying32 rfl (by rw[uD,hsz]);simp[asAddr,Result.andThen,this]
theorem Lc (x:Nat)(h:x<4):∃u:Int,(#[.int .i64 1000,.int .i64 1024,.int .i64 100,.int .i64 2048]:Array Value)[x]? =some (.int .i64 u)/\N9 u:=by
 have:x=0\/x=1\/x=2\/x=3:=by omega
 unfold N9;rcases this with rfl|rfl|rfl|rfl<;>exact⟨_,rfl,by omega,by omega⟩
abbrev PX:List TypeId:=[dR,mQ,ax,kW,kR,gV,iO,tRow,kP,aW,gQ,ja,eF,jB,uM,Cf,vW]
def Tf (w:World):Bs:=fun b=>∃cs t,Bk w b t cs/\t∈PX
theorem TR.tf {ts:List TypeId}{lo hi:Nat}{w:World}(h:∀t∈ts,t∈PX):∀b,TR ts lo hi w b->Tf w b:=fun _ ⟨_,cs,t,h1,h2⟩=>⟨cs,t,h1,h t h2⟩
theorem Tf.lt {w:World}:∀b,Tf w b->b<w.heap.size:=fun _ ⟨_,_,h,_⟩=>h.lt
def oG (w:World)(e:Ending)(w':World):Prop:=∃(f:Fnt) (fc:List Value),aaD f/\e= .returned (.agg fc.toArray)/\aab w' (Tf w') fc f/\Below w.heap.size w w'
def Pg:Nat->Value:=fun i=>if i=0 then .int .i64 0 else .slice none 0 0
theorem CQ {w Wf Wm:World}{A:Option Addr}{n:Nat}{zs:List Int}(hbf:Below w.heap.size w Wf)(FB:w.heap.size<=Wf.heap.size)(hr:Rd w w.heap.size A n 1 (aI zs))(hz:∀z∈zs,I64 z)(hn:n<=1000000000)(c:Nat)
  (hW:(Wf.alloc (.cells #[.slice A n c,.int .i64 0,.int .i64 0,.slice none 0 0,.slice none 0 0,.slice none 0 0,.slice none 0 0,.slice none 0 0,.slice none 0 0,.slice none 0 0,.slice none 0 0,.int .i64 0] gm)).alloc (.cells #[.int .i64 1000,.int .i64 1024,.int .i64 100,.int .i64 2048] ax)=Wm):
  Mk Wm Wf.heap.size Pg 0/\Below Wf.heap.size Wf Wm/\Bk Wm (Wf.heap.size+1) ax #[.int .i64 1000,.int .i64 1024,.int .i64 100,.int .i64 2048]/\Wm.heap.size=Wf.heap.size+2:=by
 have hb:Below Wf.heap.size Wf Wm:=by rw[<-hW];exact((aa0 _ _).alloc (ag _) _).alloc (by simp) _
 refine⟨⟨A,n,c,0,zs,?_,nz _,hn,?_,hz⟩,hb,?_,?_⟩
 ·rw[<-hW];exact(Bk.new _ _ _).alloc _
 ·exact((hr.below hbf (ag _)).mono FB).below hb (ag _)
 ·rw[<-hW];exact ah _ _ (by simp)
 rw[<-hW];simp
def Ny:Op:=Op.load 25 (Operand.tmp 176)
attribute [go_sem] Ny
theorem Fb (w:World)(A:Option Addr)(n c:Nat)(zs:List Int)(hr:Rd w w.heap.size A n 1 (aI zs))(hz:∀z∈zs,I64 z)(hn:n<=1000000000):Calls Tryd.prog 19 #[.slice A n c] w (oG w):=by
 have HR:=hd0 hr;have HZ:=hd0 hz;have SI:=hd0 (Qo ax (by kernel_rfl) .i64);have SR:=hd0 (jb 29 (by kernel_rfl));have SC:=hd0 (jb 30 (by kernel_rfl));have SN:=hd0 (jb 22 (by kernel_rfl));have SH:=hd0 (jb 25 (by kernel_rfl));have SF:=hd0 (jb 27 (by kernel_rfl));have ST:=hd0 (jb 87 (by kernel_rfl));have SX:=hd0 (jb 28 (by kernel_rfl));clear hr hz;go_enter Tryd.func19,Tryd.ntmps19
 go_wp2_with fail
 obtain⟨Wf,hWf⟩:∃Wf,w.alloc (.cells #[.int .i64 0,.slice none 0 0,.slice none 0 0,.slice none 0 0,.slice none 0 0,.slice none 0 0,.slice none 0 0,.slice none 0 0,.slice none 0 0] iM)=Wf:=⟨_,rfl⟩
 have TB:Bk Wf w.heap.size iM zeroFn:=by rw[<-hWf];exact Bk.new _ _ _
 have hbf:Below w.heap.size w Wf:=by rw[<-hWf];exact(aa0 _ _).alloc (ag _) _
 have FB:w.heap.size+1=Wf.heap.size:=by rw[<-hWf];simp
 obtain⟨Wm,OU⟩:∃Wm,(Wf.alloc (.cells #[.slice A n c,.int .i64 0,.int .i64 0,.slice none 0 0,.slice none 0 0,.slice none 0 0,.slice none 0 0,.slice none 0 0,.slice none 0 0,.slice none 0 0,.slice none 0 0,.int .i64 0] gm)).alloc (.cells #[.int .i64 1000,.int .i64 1024,.int .i64 100,.int .i64 2048] ax)=Wm:=⟨_,rfl⟩
 rw[hWf,OU,FB];have BF:=hd0 TB;have LF:=hd0 hbf;obtain⟨m,hm⟩:∃m,Wf.heap.size=m:=⟨_,rfl⟩
 obtain⟨Qs,hlm,hbk,hzm⟩:=CQ hbf (by rw[<-FB];exact Nat.le_succ _) HR.out HZ.out hn c OU;rw[hm] at Qs hbk hzm FB ⊢;have HK:=hd0 Qs;have HL:=hd0 hlm;clear hWf OU TB hbf Qs hlm;refine(ak Wm m Pg 0 4 HK.out (by omega) (by omega)).mono ?_;rintro e w2 ⟨x,hx,rfl,hm2,hv2⟩;have hb2:=(Sp.next HK.out hv2).bk hbk (by decide);obtain⟨u,hu,Sj⟩:=Lc x hx;have qx:w2.cell? ⟨m+1,x,none⟩=some (.int .i64 u):=by rw[hb2.cell];exact hu
 have q2:w2.cell? ⟨m,2,none⟩=some (.int .i64 0):=hm2.at' 0 (by omega) rfl;have f2:=hm2.frozen 2;have XN:=hm2.lt;have si:=SI.out;have EE:=hd0 hm2;have HL2:=hd0 (lK HL.out (Nat.le_of_eq hm) hv2);clear hm2 hv2 hbk HK HL hb2 hu;go_wp2_with fail
 obtain⟨F0,Jm⟩:∃F,bu Pg 0 (.int .i64 u)=F:=⟨_,rfl⟩
 have hu0:F0 0= .int .i64 u:=by rw[<-Jm];rfl
 have HN:Hid (∀i,1<=i->F0 i= .slice none 0 0):=hd0 (fun i hi=>by rw[<-Jm,ay (by omega)];exact if_neg (by omega));have HU:=hd0 hu0;have hk3:=EE.out.put 0 (by omega) (.int .i64 u);have hv3:=EE.out.mvp 2 (.int .i64 u);rw[Jm] at hk3;obtain⟨w3,hw3⟩:∃w3,w2.setCell ⟨m,2,none⟩ (.int .i64 u)=w3:=⟨_,rfl⟩
 rw[hw3] at hk3 hv3 ⊢;have l7:=hd0 hk3;have nD:=hd0 (lK HL2.out (Nat.le_of_eq hm) hv3);clear hw3 hk3 hv3 EE HL2 qx q2 f2 Jm hu0 si;refine(ak w3 m F0 0 3 l7.out (by omega) (by omega)).mono ?_;rintro e w4 ⟨ka,hka,rfl,hm4,hv4⟩;have hl4:=lK nD.out (Nat.le_of_eq hm) hv4;have Yc:=hm4.lt;have Sv:Hid (MS ZY Wf m F0 0 5 ja [] 4 none 0 [] [] (fun _=>True) w4.heap.size w4.heap.size w4):=hd0 (MS.start hm4 (HN.out 5 (by omega)) (ZN.true (hi:=m+1) (by omega)) hl4 ⟨by omega,by omega⟩);generalize w4.heap.size=hA at Sv;clear hm4 hv4 hl4 l7 nD;go_wp2_with fail
 go_loopw [5] (fun i wr=>∃(xs:List aap) (A5:Option Addr) (c5:Nat) (cells:List Value) (top:Nat),xs.length<=ka/\i= .int .i64 xs.length/\Hid ((∀a∈xs,nameB a.name=true/\N9 a.min'/\N9 a.aas/\N9 a.max'))/\Hid (MS ZY Wf m F0 0 5 ja [] 4 A5 c5 cells xs (fun _=>True) hA top wr)) (fun i _=>ka - (intOf i).toNat)
 case atStart=>exact⟨[],none,0,[],hA,nz _,rfl,hd0 (by simp),Sv⟩
 case round=>
  obtain⟨wa,rfl⟩:∃x,x=wr:=⟨_,rfl⟩
  obtain⟨xs,A5,c5,cells,top,hk,rfl,hox,HS⟩:=hrel;by_cases hlt:xs.length<ka
  ·have hna:xs.length<3:=by omega
   have HI:Hid (GI wa m (bu F0 5 (.slice A5 xs.length c5)) 0 wa):=hd0 ⟨HS.out.Zv,qL m wa⟩
   go_upto_region 7 with fail
   refine KE wa m xs.length (bu F0 5 (.slice A5 xs.length c5)) HI (by omega) _ _ (by kernel_rfl) _ _ _ _ _ _ _ _ _ _ _ _ _ _ _ _ _ _ _ _ _ _ _ _ _ _ _ _ _ _ _ _ _ _ _ _ _ _ _ _ _ _ _ _ _ _ _ _ _ _ _ _ _ _ _ _ _ _ _ _ _ _ _ _ _ _ _ _ _ _ _ _ _ _ _ _ _ _ _ _ _ _ _ _ _ _ _ _ _ _ _ _ _ _ _ _ _ _ _ _ _ _ _ _ _ _ _ _ _ _ _ _ _ _ _ _ _ _ _ _ _ _ _ _ _ _ _ _ _ _ _ _ _ _ _ _ _ _ _ _ _ _ _ _ _ _ _ _ _ _ _ _ _ _ _ _ _ _ _ _ _ _ _ _ _ _ _ _ _ _ _ _ _ _ _ _ _ _ _ _ _ _ _ _ _ _ _ _ _ _ _ _ _ _ _ _ _ _ _ _ _ _ _ _ _ _ _ _ _ _ _ _ _ _ _ _ _ _ _ _ _ _ _ _ _ _ _ _ _ _ _ _ _ _ _ _ _ _ _ _ _ _ _ _ _ (hd0 ?_);intro g mn mx wx v39 v40 v41 v42 v43 v44 v45 v46 v47 v48 v49 v50 v51 v52 hg hmn hmx hbx hgi;have HX:=hd0 (HS.out.next ZY.ok (by decide) hgi.Zv hgi.mv);have x7:wx.cell? ⟨m,7,none⟩=some (.slice A5 xs.length c5):=HX.out.cell (by omega);have d0:=hbx.cell 0;have d1:=hbx.cell 1;have d2:=hbx.cell 2;have d3:=hbx.cell 3;have Ze:=hbx.lt;have YN:=HX.out.Zv.lt;have sx:=SX.out;obtain⟨B,d,w9,hrun,x9,y9,z9,h9⟩:=(HX.out.drew ZY.ok).more ZY.ok (by omega) MO (by decide) (by decide) (n:=xs.length) rfl (by omega) (⟨pM xs.length,mn,0,mx⟩:aap) #[.string ⟨(pM xs.length).toArray⟩,.int .i64 mn,.int .i64 0,.int .i64 mx] rfl (by simp[Value.oneCell']) ⟨rfl,eH hmn,(show I64 0 from⟨by decide,by decide⟩),eH hmx⟩;have Dy:(Builtin.append_ #[28,28] 28 #[.slice A5 xs.length c5,.slice (some ⟨wx.heap.size,0,none⟩) 1 1]).run Tryd.prog (wx.alloc (.cells #[.string ⟨(pM xs.length).toArray⟩,.int .i64 mn,.int .i64 0,.int .i64 mx] ja)).drew= .ok (.slice B (xs.length+1) d) w9:=hrun;have H9:=hd0 h9;have U4:Hid (∀a∈xs++[(⟨pM xs.length,mn,0,mx⟩:aap)],nameB a.name=true/\N9 a.min'/\N9 a.aas/\N9 a.max'):=hd0 fun a ha=>by
    rw[aa5,aa1] at ha;rcases ha with ha|rfl
    ·exact hox.out a ha
    exact⟨Nk ⟨xs.length,hna⟩,hmn,(show N9 0 from⟨by decide,by decide⟩),hmx⟩
   have U6:Hid (MS ZY Wf m F0 0 5 ja [] 4 B d (cells++[.string ⟨(pM xs.length).toArray⟩,.int .i64 mn,.int .i64 0,.int .i64 mx]) (xs++[(⟨pM xs.length,mn,0,mx⟩:aap)]) (fun _=>True) hA wx.heap.size (w9.setCell ⟨m,7,none⟩ (.slice B (xs.length+1) d))):=H9;clear h9 H9 hrun hbx hgi hmn hmx;go_wp2_with fail
   go_region
   all_goals
    go_wp2_with fail
    go_roundw
    case rel=>exact⟨xs++[(⟨pM xs.length,mn,0,mx⟩:aap)],B,d,_,_,by(rw[la];show xs.length+1<=ka;omega),by simp,U4,U6⟩
    case measure=>simp[intOf];omega
  obtain⟨P1,h1,yI,XI⟩:∃P1 h1,Hid (SG Wf m (bu F0 5 (.slice A5 xs.length c5)) 0 P1 h1 wa)/\Hid (∀w,P1 w->Sl ZY 4 w (TR [ja] (m+1) h1 w) A5 xs):=⟨_,_,hd0 (HS.out.sg ZY.ok (by omega)),hd0 fun w h=>h.2⟩
  obtain⟨F1,hF1⟩:∃F,bu F0 5 (.slice A5 xs.length c5)=F:=⟨_,rfl⟩
  have NL:Hid (F1 5= .slice A5 xs.length c5):=by rw[<-hF1];exact hd0 (bH _ _ _)
  have OB:Hid (F1 0= .int .i64 u):=by rw[<-hF1];exact hd0 ((ay (by decide)).trans HU.out)
  have JM:Hid (∀i,1<=i->i≠5->F1 i= .slice none 0 0):=by rw[<-hF1];exact hd0 fun i hi h5=>(ay h5).trans (HN.out i hi)
  rw[hF1] at yI;have WF:=hd0 (show xs.length<=2 by omega);clear hF1 HS HN HU
  go_upto_if 66 with fail
  go_cut [7,8,9,10,66] from 67 to 105 (fun _ _ _ _ _ wx=>∃(rg:List Region) (A6:Option Addr) (c6:Nat) (P2:World->Prop) (h2:Nat),((∀r∈rg,(∀t∈r.ZU,N9 t.start/\N9 t.peak/\N9 t.stop)/\r.ZU.length<=2)/\rg.length<=3)/\(∀w,P2 w->P1 w/\Sl ZJ 1 w (TR [jB,eF] (m+1) h2 w) A6 rg)/\SG Wf m (bu F1 6 (.slice A6 rg.length c6)) 0 P2 h2 wx)
  case first=>
   by_cases h0:0<ka
   ·go_wp2_with fail
    refine(ak wa m F1 0 4 yI.out.Zv (by omega) (by omega)).mono ?_;rintro e wb ⟨nr,hnr,rfl,hmb,hvb⟩;have HR0:Hid (MS ZJ Wf m F1 0 6 jB [eF] 1 none 0 [] [] P1 wb.heap.size wb.heap.size wb):=hd0 ((yI.out.next hmb hvb).ms (JM.out 6 (by omega) (by omega)));generalize wb.heap.size=hB at HR0;clear hmb hvb;go_wp2_with fail
    go_loopw [8] (fun i wr=>∃(rg:List Region) (A6:Option Addr) (c6:Nat) (cells:List Value) (top:Nat),rg.length<=nr/\i= .int .i64 rg.length/\Hid (∀r∈rg,(∀t∈r.ZU,N9 t.start/\N9 t.peak/\N9 t.stop)/\r.ZU.length<=2)/\Hid (MS ZJ Wf m F1 0 6 jB [eF] 1 A6 c6 cells rg P1 hB top wr)) (fun i _=>nr - (intOf i).toNat)
    case atStart=>exact⟨[],none,0,[],hB,nz _,rfl,hd0 (by simp),HR0⟩
    case round=>
     obtain⟨wd,rfl⟩:∃x,x=wr:=⟨_,rfl⟩
     obtain⟨rg,A6,c6,cells,top,hk2,rfl,hor,HS⟩:=hrel;by_cases hlt2:rg.length<nr
     ·go_wp2_with fail
      obtain⟨we,hwe⟩:∃we,wd.alloc (.cells #[.slice none 0 0] jB)=we:=⟨_,rfl⟩
      have HT0:Hid (TG Wf m F1 P1 hB wd.heap.size A6 c6 cells rg [] none 0 we):=by rw[<-hwe];have h1:=HS.out.below ZJ.ok ((aa0 wd.heap.size wd).alloc (ag _) (.cells #[.slice none 0 0] jB));exact hd0 ⟨h1.aay ZJ.ok HS.out.bnd.2.2.2 (by simp),Bk.new _ _ _,World.ownsRow_nil _ _ _ _,fun x hx=>Nat.ne_of_lt (HS.out.row.lt x hx).2⟩
      rw[hwe];clear hwe HS;go_loopw [10] (fun i wr=>∃(ts:List aag) (At:Option Addr) (ct:Nat),ts.length<=ka/\i= .int .i64 ts.length/\Hid (∀t∈ts,N9 t.start/\N9 t.peak/\N9 t.stop)/\Hid (TG Wf m F1 P1 hB wd.heap.size A6 c6 cells rg ts At ct wr)) (fun i _=>ka - (intOf i).toNat)
      case atStart=>exact⟨[],none,0,nz _,rfl,hd0 (by simp),HT0⟩
      case round=>
       obtain⟨wg,rfl⟩:∃x,x=wr:=⟨_,rfl⟩
       obtain⟨ts,At,ct,hk3,rfl,hot,HT⟩:=hrel;have xr:wg.cell? ⟨wd.heap.size,0,none⟩=some (.slice At ts.length ct):=HT.out.bk.cell 0;have Ru:=HT.out.bk.lt;by_cases hlt3:ts.length<ka
       ·
        have hrm:wd.heap.size≠m:=by have:=HT.out.ms.bnd;omega
        have aO:True:=trivial;have st:=ST.out;go_wp2_with fail
        go_region_with (first
         |(go_at_call 36;have _t:=aO;first
          |(refine(ak _ m (bu F1 6 (.slice A6 rg.length c6)) 0 5 (by exact(HT.out.drew.alloc _).ms.Zv) (by omega) (by omega)).mono ?_;rintro e w3 ⟨x,hx,rfl,aF,hv3⟩;have H3:=(HT.out.drew.alloc (.cells #[.int .i64 0,.int .i64 64,.int .i64 64,.int .i64 0,.int .i64 32,.int .i64 64,.int .i64 (-64),.int .i64 (-64),.int .i64 0,.int .i64 (-1),.int .i64 0,.int .i64 5,.int .i64 10,.int .i64 32,.int .i64 50] eF)).next aF hv3;have hL:=(Sp.next (HT.out.drew.alloc (.cells #[.int .i64 0,.int .i64 64,.int .i64 64,.int .i64 0,.int .i64 32,.int .i64 64,.int .i64 (-64),.int .i64 (-64),.int .i64 0,.int .i64 (-1),.int .i64 0,.int .i64 5,.int .i64 10,.int .i64 32,.int .i64 50] eF)).ms.Zv hv3).bk (Bk.new wg.drew eF #[.int .i64 0,.int .i64 64,.int .i64 64,.int .i64 0,.int .i64 32,.int .i64 64,.int .i64 (-64),.int .i64 (-64),.int .i64 0,.int .i64 (-1),.int .i64 0,.int .i64 5,.int .i64 10,.int .i64 32,.int .i64 50]) (by decide);obtain⟨ta,tb,tc,ea,eb,ec,na,nb,nc⟩:=AB x hx;have qa:w3.cell? ⟨wg.heap.size,x*3,none⟩=some (.int .i64 ta):=(hL.cell _).trans ea;have qb:w3.cell? ⟨wg.heap.size,x*3+1,none⟩=some (.int .i64 tb):=(hL.cell _).trans eb;have qc:w3.cell? ⟨wg.heap.size,x*3+2,none⟩=some (.int .i64 tc):=(hL.cell _).trans ec;have Bo:w3.cell? ⟨wd.heap.size,0,none⟩=some (.slice At ts.length ct):=H3.bk.cell 0;have uI:=H3.bk.lt;obtain⟨B,d,w9,hrun,x9,y9,z9,h9⟩:=H3.more (by omega) ta tb tc;have H9:=hd0 h9;have AY:=hd0 (And.intro na (And.intro nb nc));clear _t aO hL H3 h9 aF hv3 ea eb ec na nb nc)
          |(refine(ak _ m (bu F1 6 (.slice A6 rg.length c6)) 0 5 (by exact HT.out.drew.ms.Zv) (by omega) (by omega)).mono ?_;rintro e w3 ⟨x,hx,rfl,aF,hv3⟩;have H3:=(HT.out.drew.next aF hv3).alloc (.cells #[.int .i64 0,.int .i64 64,.int .i64 64,.int .i64 0,.int .i64 32,.int .i64 64,.int .i64 (-64),.int .i64 (-64),.int .i64 0,.int .i64 (-1),.int .i64 0,.int .i64 5,.int .i64 10,.int .i64 32,.int .i64 50] eF);have h3:=HT.out.drew.next aF hv3;obtain⟨ta,tb,tc,ea,eb,ec,na,nb,nc⟩:=AB x hx;have hL:=Bk.new w3 eF #[.int .i64 0,.int .i64 64,.int .i64 64,.int .i64 0,.int .i64 32,.int .i64 64,.int .i64 (-64),.int .i64 (-64),.int .i64 0,.int .i64 (-1),.int .i64 0,.int .i64 5,.int .i64 10,.int .i64 32,.int .i64 50];have qa:(w3.alloc (.cells #[.int .i64 0,.int .i64 64,.int .i64 64,.int .i64 0,.int .i64 32,.int .i64 64,.int .i64 (-64),.int .i64 (-64),.int .i64 0,.int .i64 (-1),.int .i64 0,.int .i64 5,.int .i64 10,.int .i64 32,.int .i64 50] eF)).cell? ⟨w3.heap.size,x*3,none⟩=some (.int .i64 ta):=(hL.cell _).trans ea;have qb:(w3.alloc (.cells #[.int .i64 0,.int .i64 64,.int .i64 64,.int .i64 0,.int .i64 32,.int .i64 64,.int .i64 (-64),.int .i64 (-64),.int .i64 0,.int .i64 (-1),.int .i64 0,.int .i64 5,.int .i64 10,.int .i64 32,.int .i64 50] eF)).cell? ⟨w3.heap.size,x*3+1,none⟩=some (.int .i64 tb):=(hL.cell _).trans eb;have qc:(w3.alloc (.cells #[.int .i64 0,.int .i64 64,.int .i64 64,.int .i64 0,.int .i64 32,.int .i64 64,.int .i64 (-64),.int .i64 (-64),.int .i64 0,.int .i64 (-1),.int .i64 0,.int .i64 5,.int .i64 10,.int .i64 32,.int .i64 50] eF)).cell? ⟨w3.heap.size,x*3+2,none⟩=some (.int .i64 tc):=(hL.cell _).trans ec;have Bo:w3.cell? ⟨wd.heap.size,0,none⟩=some (.slice At ts.length ct):=h3.bk.cell 0;have uI:=h3.bk.lt;obtain⟨B,d,w9,hrun,x9,y9,z9,h9⟩:=H3.more (by omega) ta tb tc;rw[World.size_alloc] at hrun;have H9:=hd0 h9;have AY:=hd0 (And.intro na (And.intro nb nc));clear _t aO hL H3 h3 h9 aF hv3 ea eb ec na nb nc)))
        all_goals
         have Uy:Hid (∀t∈ts++[(⟨ta,tb,tc⟩:aag)],N9 t.start/\N9 t.peak/\N9 t.stop):=hd0 fun t ht=>by
          rw[aa5,aa1] at ht;rcases ht with ht|rfl
          ·exact hot.out t ht
          exact AY.out
         clear hrun x9 y9 z9 Bo uI qa qb qc;go_wp2_with fail
         go_roundw
         case rel=>exact⟨ts++[(⟨ta,tb,tc⟩:aag)],B,d,by(rw[la];show ts.length+1<=ka;omega),by simp,Uy,H9⟩
         case measure=>simp[intOf];omega
       have hbn:=HT.out.ms.bnd;have x8:wg.cell? ⟨m,8,none⟩=some (.slice A6 rg.length c6):=HT.out.ms.cell (by omega);have zm:=HT.out.ms.Zv.lt;have YY:=SR.out;have Fv:ZJ wg.drew (TR [eF] hB wg.drew.heap.size wg.drew) [.slice At ts.length ct] ⟨ts⟩:=⟨At,ct,rfl,nC (lo:=hB) HT.out.drew.row (Hl _ _ ts fun t ht=>by have h:=hot.out t ht;exact⟨eH h.1,eH h.2.1,eH h.2.2⟩) (by simp) (by omega) (by omega)⟩
       obtain⟨B,d,w9,hrun,x9,y9,z9,h9⟩:=HT.out.drew.ms.more ZJ.ok (by omega) Io (by decide) (by decide) (n:=rg.length) rfl (by omega) ⟨ts⟩ #[.slice At ts.length ct] rfl (by simp[Value.oneCell']) Fv;have Dy:(Builtin.append_ #[29,29] 29 #[.slice A6 rg.length c6,.slice (some ⟨wg.heap.size,0,none⟩) 1 1]).run Tryd.prog (wg.alloc (.cells #[.slice At ts.length ct] jB)).drew= .ok (.slice B (rg.length+1) d) w9:=hrun;have H9:Hid (MS ZJ Wf m F1 0 6 jB [eF] 1 B d (cells++[.slice At ts.length ct]) (rg++[⟨ts⟩]) P1 hB wg.heap.size (w9.setCell ⟨m,8,none⟩ (.slice B (rg.length+1) d))):=hd0 h9;have hor2:Hid (∀r∈rg++[(⟨ts⟩:Region)],(∀t∈r.ZU,N9 t.start/\N9 t.peak/\N9 t.stop)/\r.ZU.length<=2):=hd0 fun r hr=>by
        rw[aa5,aa1] at hr;rcases hr with hr|rfl
        ·exact hor.out r hr
        exact⟨hot.out,show ts.length<=2 by omega⟩
       clear h9 hrun Fv hbn;go_wp2_with fail
       go_region
       all_goals
        go_wp2_with fail
        go_roundw
        case rel=>exact⟨rg++[(⟨ts⟩:Region)],B,d,_,_,by(rw[la];show rg.length+1<=nr;omega),by simp,hor2,H9⟩
        case measure=>simp[intOf];omega
     go_wp2_with fail
     go_meet
     exact⟨rg,A6,c6,_,_,⟨hor.out,by omega⟩,fun w h=>h,HS.out.sg ZJ.ok (by omega)⟩
   have Yg:ka=0:=by omega
   go_wp2_with fail
   go_meet
   refine⟨[],none,0,P1,h1,by simp,fun w h=>⟨h,Sl.nil⟩,?_⟩;have e6:bu F1 6 (.slice none ([]:List Region).length 0)=F1:=F9 (JM.out 6 (by omega) (by omega));rw[e6];exact yI.out
  case rest=>
  obtain⟨rg,A6,c6,P2,h2,hrg,hP2,hsg⟩:=hcut;obtain⟨wb,rfl⟩:∃x,x=wc:=⟨_,rfl⟩
  obtain⟨F2,hF2⟩:∃F,bu F1 6 (.slice A6 rg.length c6)=F:=⟨_,rfl⟩
  have Oj:Hid (F2 6= .slice A6 rg.length c6):=by rw[<-hF2];exact hd0 (bH _ _ _)
  have Qd:Hid (F2 5= .slice A5 xs.length c5):=by rw[<-hF2];exact hd0 ((ay (by decide)).trans NL.out)
  have PP:Hid (F2 0= .int .i64 u):=by rw[<-hF2];exact hd0 ((ay (by decide)).trans OB.out)
  have Qx:Hid (∀i,1<=i->i≠5->i≠6->F2 i= .slice none 0 0):=by rw[<-hF2];exact hd0 fun i hi h5 h6=>(ay h6).trans (JM.out i hi h5)
  rw[hF2] at hsg;have Hw:=hd0 hsg;have V6:=hd0 hrg;have HP2:=hd0 hP2;have hrg3:=hrg.2;clear hF2 hsg hrg hP2 JM OB NL yI;go_wp2_with fail
  refine(ak wb m F2 0 3 Hw.out.Zv (by omega) (by omega)).mono ?_;rintro e wd ⟨kf,Zl,rfl,hmd,hvd⟩;have Gy:Hid (MS ZW Wf m F2 0 7 uM [iO] 1 none 0 [] [] P2 wd.heap.size wd.heap.size wd):=hd0 ((Hw.out.next hmd hvd).ms (Qx.out 7 (by omega) (by omega) (by omega)));generalize wd.heap.size=hC at Gy;clear hmd hvd Hw;go_wp2_with fail
  go_loopw [11] (fun i wr=>∃(fn:List (List Ins)) (A7:Option Addr) (c7:Nat) (cells:List Value) (top:Nat) (lp:Int),fn.length<=kf/\i= .int .i64 fn.length/\Hid (∀p∈fn,gU p/\p.length<=60)/\Hid (MS ZW Wf m F2 lp 7 uM [iO] 1 A7 c7 cells fn P2 hC top wr)) (fun i _=>kf - (intOf i).toNat)
  case atStart=>exact⟨[],none,0,[],hC,0,nz _,rfl,hd0 (by simp),Gy⟩
  case round=>
   obtain⟨we,rfl⟩:∃x,x=wr:=⟨_,rfl⟩
   obtain⟨fn,A7,c7,cells,top,lp,hkn,rfl,hof,HS⟩:=hrel;by_cases hlt:fn.length<kf
   ·
    have c11:we.cell? ⟨m,11,none⟩=some (.int .i64 lp):=HS.out.Zv.cells.2;have f11:=HS.out.Zv.frozen 11;have WH:=HS.out.Zv.lt;have si:=SI.out
    go_upto_region 25 with fail
    have xq:Hid (MS ZW Wf m F2 0 7 uM [iO] 1 A7 c7 cells fn P2 hC top (we.setCell ⟨m,11,none⟩ (.int .i64 0))):=hd0 (HS.out.next ZW.ok (by decide) (HS.out.Zv.loops 0) (HS.out.Zv.mvp 11 _));obtain⟨w1,hw1⟩:∃w1,we.setCell ⟨m,11,none⟩ (.int .i64 0)=w1:=⟨_,rfl⟩
    rw[hw1] at xq ⊢;clear hw1 c11 f11 WH HS si;have Si:w1.cell? ⟨m,9,none⟩=some (.slice A7 fn.length c7):=xq.out.cell (by omega);have Y1:=xq.out.Zv.lt;have hbn:=xq.out.bnd;have sc:=SC.out;have aO:True:=trivial
    go_region_with (go_at_call 37;have _t:=aO;refine(Bl _ m (bu F2 7 (.slice A7 fn.length c7)) 0 6 fn.length 4 (by exact xq.out.Zv) (by omega) (by omega) (by omega) (by omega) (by omega)).mono ?_;rintro e w3 ⟨pc,Ap,cp,lp2,hp,hpl,hlp,rfl,hcap,sp,aF,hv3⟩;have H3:=(xq.out.drew ZW.ok).next ZW.ok (by decide) aF hv3;have x93:w3.cell? ⟨m,9,none⟩=some (.slice A7 fn.length c7):=H3.cell (by omega);have Fa:=H3.Zv.lt;obtain⟨B,d,w9,hrun,x9,y9,z9,h9⟩:=H3.more ZW.ok (by omega) Oc (by decide) (by decide) (n:=fn.length) rfl (by omega) pc #[.slice Ap pc.length cp] rfl (by simp[Value.oneCell']) ⟨Ap,cp,rfl,sp.mono ZQ.ok (TR.aaA (by show hC<=w1.heap.size;omega))⟩;have H9:=hd0 h9;have Rw:=hd0 (And.intro hp hpl);clear _t aO H3 h9 aF hv3 sp hp)
    all_goals
     have U9:Hid (∀p∈fn++[pc],gU p/\p.length<=60):=hd0 fun p hp=>by
      rw[aa5,aa1] at hp;rcases hp with hp|rfl
      ·exact hof.out p hp
      exact⟨Rw.out.1,by have:=Rw.out.2;omega⟩
     clear hrun x9 y9 z9 x93 Fa sc;go_wp2_with fail
     go_roundw
     case rel=>exact⟨fn++[pc],B,d,_,_,lp2,by(rw[la];show fn.length+1<=kf;omega),by simp,U9,H9⟩
     case measure=>simp[intOf];omega
   obtain⟨P3,h3,DR,WA⟩:∃P3 h3,Hid (SG Wf m (bu F2 7 (.slice A7 fn.length c7)) lp P3 h3 we)/\Hid (∀w,P3 w->P2 w/\Sl ZW 1 w (TR [uM,iO] (m+1) h3 w) A7 fn):=⟨_,_,hd0 (HS.out.sg ZW.ok (by omega)),hd0 fun w h=>h⟩
   obtain⟨F3,hF3⟩:∃F,bu F2 7 (.slice A7 fn.length c7)=F:=⟨_,rfl⟩
   have Nb:Hid (F3 7= .slice A7 fn.length c7):=by rw[<-hF3];exact hd0 (bH _ _ _)
   have Nh:Hid (F3 6= .slice A6 rg.length c6):=by rw[<-hF3];exact hd0 ((ay (by decide)).trans Oj.out)
   have Pj:Hid (F3 5= .slice A5 xs.length c5):=by rw[<-hF3];exact hd0 ((ay (by decide)).trans Qd.out)
   have MQ:Hid (F3 0= .int .i64 u):=by rw[<-hF3];exact hd0 ((ay (by decide)).trans PP.out)
   have AY:Hid (∀i,1<=i->i≠5->i≠6->i≠7->F3 i= .slice none 0 0):=by rw[<-hF3];exact hd0 fun i hi h5 h6 h7=>(ay h7).trans (Qx.out i hi h5 h6)
   rw[hF3] at DR;have hfn2:fn.length<=2:=by omega
   clear hF3 Qx PP Qd Oj HS;go_wp2_with fail
   refine(ak we m F3 lp 4 DR.out.Zv (by omega) (by omega)).mono ?_;rintro e wf ⟨kc,hkc,rfl,hmf,FD⟩;have SY:Hid (MS Zx Wf m F3 lp 8 ax [] 1 none 0 [] [] P3 wf.heap.size wf.heap.size wf):=hd0 ((DR.out.next hmf FD).ms (AY.out 8 (by omega) (by omega) (by omega) (by omega)));generalize wf.heap.size=hV at SY;clear hmf FD DR;go_wp2_with fail
   go_loopw [12] (fun i wr=>∃(cv:List Int) (A8:Option Addr) (c8:Nat) (cells:List Value) (top:Nat),cv.length<=kc/\i= .int .i64 cv.length/\Hid (∀n∈cv,N9 n)/\Hid (MS Zx Wf m F3 lp 8 ax [] 1 A8 c8 cells cv P3 hV top wr)) (fun i _=>kc - (intOf i).toNat)
   case atStart=>exact⟨[],none,0,[],hV,nz _,rfl,hd0 (by simp),SY⟩
   case round=>
    obtain⟨wg,rfl⟩:∃x,x=wr:=⟨_,rfl⟩
    obtain⟨cv,A8,c8,WU,Ye,hkv,rfl,hov,HS⟩:=hrel;by_cases hlt2:cv.length<kc
    ·
     have x10:wg.cell? ⟨m,10,none⟩=some (.slice A8 cv.length c8):=HS.out.cell (by omega);have Y9:=HS.out.Zv.lt;have sn:=SN.out;have aO:True:=trivial;go_wp2_with fail
     go_region_with (go_at_call 36;have _t:=aO;refine(ak _ m (bu F3 8 (.slice A8 cv.length c8)) lp 500 (by exact HS.out.Zv) (by omega) (by omega)).mono ?_;rintro e w3 ⟨x,hx,rfl,aF,hv3⟩;have H3:=(HS.out.drew Zx.ok).next Zx.ok (by decide) aF hv3;have x103:w3.cell? ⟨m,10,none⟩=some (.slice A8 cv.length c8):=H3.cell (by omega);have Fa:=H3.Zv.lt;have hw1:IntKind.i64.wrap ((x:Int) - 100)=(x:Int) - 100:=wrap_in _ (by omega) (by omega);obtain⟨B,d,w9,hrun,x9,y9,z9,h9⟩:=H3.more Zx.ok (by omega) jC (by decide) (by decide) (n:=cv.length) rfl (by omega) (IntKind.i64.wrap ((x:Int) - 100)) #[.int .i64 (IntKind.i64.wrap ((x:Int) - 100))] rfl (by simp[Value.oneCell']) ⟨rfl,by rw[hw1];exact⟨by omega,by omega⟩⟩;have H9:=hd0 h9;have HW1:=hd0 hw1;clear _t aO hw1 H3 h9 aF hv3)
     all_goals
      have Ub:Hid (∀n∈cv++[IntKind.i64.wrap ((x:Int) - 100)],N9 n):=hd0 fun z hz=>by
       rw[aa5,aa1] at hz;rcases hz with hz|rfl
       ·exact hov.out z hz
       rw[HW1.out];unfold N9;omega
      clear hrun x9 y9 z9 x103 Fa sn;go_wp2_with fail
      go_roundw
      case rel=>exact⟨cv++[IntKind.i64.wrap ((x:Int) - 100)],B,d,_,_,by(rw[la];show cv.length+1<=kc;omega),by simp,Ub,H9⟩
      case measure=>simp[intOf];omega
    obtain⟨P4,h4,Cj,Xj⟩:∃P4 h4,Hid (SG Wf m (bu F3 8 (.slice A8 cv.length c8)) lp P4 h4 wg)/\Hid (∀w,P4 w->P3 w/\Sl Zx 1 w (TR [ax] (m+1) h4 w) A8 cv):=⟨_,_,hd0 (HS.out.sg Zx.ok (by omega)),hd0 fun w h=>h⟩
    obtain⟨F4,xu⟩:∃F,bu F3 8 (.slice A8 cv.length c8)=F:=⟨_,rfl⟩
    have OX:Hid (F4 8= .slice A8 cv.length c8):=by rw[<-xu];exact hd0 (bH _ _ _)
    have G8:Hid (F4 7= .slice A7 fn.length c7):=by rw[<-xu];exact hd0 ((ay (by decide)).trans Nb.out)
    have Ii:Hid (F4 6= .slice A6 rg.length c6):=by rw[<-xu];exact hd0 ((ay (by decide)).trans Nh.out)
    have O9:Hid (F4 5= .slice A5 xs.length c5):=by rw[<-xu];exact hd0 ((ay (by decide)).trans Pj.out)
    have Ov:Hid (F4 0= .int .i64 u):=by rw[<-xu];exact hd0 ((ay (by decide)).trans MQ.out)
    have PD:Hid (∀i,1<=i->i<5->F4 i= .slice none 0 0):=by rw[<-xu];exact hd0 fun i hi h5=>(ay (by omega)).trans (AY.out i hi (by omega) (by omega) (by omega))
    rw[xu] at Cj;have Ut:cv.length<=3:=by omega
    clear xu AY MQ Pj Nh Nb HS;go_wp2_with fail
    refine(ak wg m F4 lp 9 Cj.out.Zv (by omega) (by omega)).mono ?_;rintro e wh ⟨Jn,hkg,rfl,TM,S9⟩;have TL:Hid (MS ZK Wf m F4 lp 1 dR uq 9 none 0 [] [] P4 wh.heap.size wh.heap.size wh):=hd0 ((Cj.out.next TM S9).ms (PD.out 1 (by omega) (by omega)));generalize wh.heap.size=hG at TL;clear TM S9 Cj;go_wp2_with fail
    go_loopw [13] (fun i wr=>∃(gs:List Zy) (A1:Option Addr) (c1:Nat) (cells:List Value) (top:Nat) (lp:Int),gs.length<=2+Jn/\i= .int .i64 gs.length/\Hid (∀i g,gs[i]? =some g->aat i g)/\Hid (MS ZK Wf m F4 lp 1 dR uq 9 A1 c1 cells gs P4 hG top wr)) (fun i _=>2+Jn - (intOf i).toNat)
    case atStart=>exact⟨[],none,0,[],hG,lp,nz _,rfl,hd0 (by simp),TL⟩
    case round=>
     obtain⟨wi,rfl⟩:∃x,x=wr:=⟨_,rfl⟩
     obtain⟨gs,A1,c1,OO,Yj,jS,Yf,rfl,hog,HS⟩:=hrel;by_cases hlt3:gs.length<2+Jn
     ·
      have hbn:=HS.out.bnd;go_wp2_with fail
      refine(EH wi m (bu F4 1 (.slice A1 gs.length c1)) jS gs.length gs.length A1 c1 hG OO A6 rg.length c6 A7 fn.length c7 HS.out.Zv (bH _ _ _) ((ay (by decide)).trans Ii.out) ((ay (by decide)).trans G8.out) HS.out.row (by omega) (by omega) (by omega) (by omega) (by omega) (by omega)).mono ?_;rintro e w3 ⟨g,nc,B,d,lp2,hgo,rfl,aF,ho3,hn3,hg3,hv3⟩;rw[uY] at aF;have H3:=HS.out.ZF aF ho3 hn3 hg3 hv3;have H9:=hd0 H3;have Ui:Hid (∀i g',(gs++[g])[i]? =some g'->aat i g'):=hd0 fun i g' hi=>by
       by_cases hil:i<gs.length
       ·rw[abn hil] at hi;exact hog.out i g' hi
       have hig:i=gs.length:=by have:=(aa2.1 hi).1;simp at this;omega
       subst hig;rw[abm (ag _),Nat.sub_self] at hi;simp only[abb,abq] at hi;subst hi;exact hgo
      clear H3 aF ho3 hg3 hv3;go_wp2_with fail
      go_roundw
      case rel=>exact⟨gs++[g],B,d,_,_,lp2,by(rw[la];show gs.length+1<=2+Jn;omega),by simp,Ui,H9⟩
      case measure=>simp[intOf];omega
     obtain⟨P5,h5,yK,Pm⟩:∃P5 h5,Hid (SG Wf m (bu F4 1 (.slice A1 gs.length c1)) jS P5 h5 wi)/\Hid (∀w,P5 w->P4 w/\Sl ZK 9 w (TR (dR::uq) (m+1) h5 w) A1 gs):=⟨_,_,hd0 (HS.out.sg ZK.ok (by omega)),hd0 fun w h=>h⟩
     obtain⟨F5,gq⟩:∃F,bu F4 1 (.slice A1 gs.length c1)=F:=⟨_,rfl⟩
     have vK:Hid (F5 1= .slice A1 gs.length c1):=by rw[<-gq];exact hd0 (bH _ _ _)
     have vY:Hid (F5 8= .slice A8 cv.length c8/\F5 7= .slice A7 fn.length c7/\F5 6= .slice A6 rg.length c6/\F5 5= .slice A5 xs.length c5/\F5 0= .int .i64 u):=by rw[<-gq];exact hd0 ⟨(ay (by decide)).trans OX.out,(ay (by decide)).trans G8.out,(ay (by decide)).trans Ii.out,(ay (by decide)).trans O9.out,(ay (by decide)).trans Ov.out⟩
     have JQ:Hid (∀i,2<=i->i<5->F5 i= .slice none 0 0):=by rw[<-gq];exact hd0 fun i hi h5=>(ay (by omega)).trans (PD.out i (by omega) h5)
     rw[gq] at yK;have Ip:gs.length<=10:=by omega
     have hg2:2<=gs.length:=by omega
     have Yu:=yK.out.Zv.lt;clear gq PD Ov O9 Ii G8 OX HS;go_wp2_with fail
     refine(G9 wi).mono ?_;rintro e wj ⟨rfl,Jw⟩;have hbj:Bk wj wi.heap.size ax #[.int .i64 97,.int .i64 98,.int .i64 99,.int .i64 102,.int .i64 105,.int .i64 108,.int .i64 57345,.int .i64 57346,.int .i64 57601,.int .i64 57602,.int .i64 57603,.int .i64 57857,.int .i64 57861,.int .i64 58113,.int .i64 58114,.int .i64 58369]:=by rw[Jw];exact Bk.new _ _ _
     have hzj:wj.heap.size=wi.heap.size+1:=by rw[Jw];simp
     have hsj:SG Wf m F5 jS P5 h5 wj:=by rw[Jw];exact yK.out.below ((aa0 _ _).alloc (ag _) _)
     have hh5:=yK.out.fz.top;obtain⟨rb,hrb⟩:∃rb,wi.heap.size=rb:=⟨_,rfl⟩
     rw[hrb] at hbj hzj hh5 ⊢;have FN:=hsj.more (Q:=fun w=>Bk w rb ax #[.int .i64 97,.int .i64 98,.int .i64 99,.int .i64 102,.int .i64 105,.int .i64 108,.int .i64 57345,.int .i64 57346,.int .i64 57601,.int .i64 57602,.int .i64 57603,.int .i64 57857,.int .i64 57861,.int .i64 58113,.int .i64 58114,.int .i64 58369]) (hi2:=wj.heap.size) (by omega) (ag _) hbj (fun w w' hq he=>(he rb (by omega) (by omega)).trans hq);have Gy:Hid (MS aai Wf m F5 jS 2 Cf [] 2 none 0 [] [] (fun w=>P5 w/\Bk w rb ax #[.int .i64 97,.int .i64 98,.int .i64 99,.int .i64 102,.int .i64 105,.int .i64 108,.int .i64 57345,.int .i64 57346,.int .i64 57601,.int .i64 57602,.int .i64 57603,.int .i64 57857,.int .i64 57861,.int .i64 58113,.int .i64 58114,.int .i64 58369]) wj.heap.size wj.heap.size wj):=hd0 (FN.ms (JQ.out 2 (by omega) (by omega)));generalize wj.heap.size=hJ at Gy;clear hbj hsj FN Jw yK;go_wp2_with fail
     go_loopw [15] (fun i wr=>∃(k:Nat) (ch:List Chr) (A2:Option Addr) (c2:Nat) (cells:List Value) (top:Nat),k<=16/\i= .int .i64 k/\ch.length<=k/\Hid (∀c∈ch,N9 c.rune/\In gs.length c.ZF)/\Hid (MS aai Wf m F5 jS 2 Cf [] 2 A2 c2 cells ch (fun w=>P5 w/\Bk w rb ax #[.int .i64 97,.int .i64 98,.int .i64 99,.int .i64 102,.int .i64 105,.int .i64 108,.int .i64 57345,.int .i64 57346,.int .i64 57601,.int .i64 57602,.int .i64 57603,.int .i64 57857,.int .i64 57861,.int .i64 58113,.int .i64 58114,.int .i64 58369]) hJ top wr)) (fun i _=>16 - (intOf i).toNat)
     case atStart=>exact⟨0,[],none,0,[],hJ,nz _,rfl,nz _,hd0 (by simp),Gy⟩
     case round=>
      obtain⟨wk,rfl⟩:∃x,x=wr:=⟨_,rfl⟩
      obtain⟨k,ch,A2,c2,cells2,jW,Ya,rfl,hch,hoc,HS⟩:=hrel;by_cases hlt4:k<16
      ·
       go_wp2_with fail
       refine(ak wk m (bu F5 2 (.slice A2 ch.length c2)) jS 4 HS.out.Zv (by omega) (by omega)).mono ?_;rintro e wl ⟨y,hy,rfl,hml,hvl⟩;have HL:=hd0 (HS.out.next aai.ok (by decide) hml hvl);clear hml hvl HS;by_cases hy0:0<y
       ·have ey:decide ((0:Int)<y)=true:=by simp;omega
        obtain⟨ru,JS,Jk⟩:=KI k hlt4;have x4:wl.cell? ⟨m,4,none⟩=some (.slice A2 ch.length c2):=HL.out.cell (by omega);have x3:wl.drew.cell? ⟨m,3,none⟩=some (.slice A1 gs.length c1):=HL.out.Zv.at' 1 (by omega) ((ay (by decide)).trans vK.out);have xr:wl.drew.cell? ⟨rb,k,none⟩=some (.int .i64 ru):=(HL.out.fz.now.2.cell k).trans JS;have YV:=HL.out.Zv.lt;have Y5:=HL.out.fz.now.2.lt;have sh:=SH.out;have aO:True:=trivial;go_wp2_with fail
        rw[show Op.load 25 (Operand.tmp 176)=Ny from rfl]
        go_region_held3 (fun w'=>w'.cell? ⟨m,3,none⟩=some (.slice A1 gs.length c1)/\w'.cell? ⟨rb,k,none⟩=some (.int .i64 ru))
         (first
          |with_reducible exact⟨x3,xr⟩
          |with_reducible exact⟨lI,Bo⟩
          |with_reducible exact⟨Jl _ lI,Jl _ Bo⟩
          |with_reducible exact⟨x39,Rn⟩
          |with_reducible exact⟨Tm,Rz⟩
          |go_keep)
         (first
          |(go_at_call 36;have _t:=aO;refine(ak _ m (bu F5 2 (.slice A2 ch.length c2)) jS gs.length (by exact HL.out.Zv) (by omega) (by omega)).mono ?_;rintro e w3 ⟨x,hx,rfl,aF,hv3⟩;have H3:=(HL.out.drew aai.ok).next aai.ok (by decide) aF hv3;have x43:w3.cell? ⟨m,4,none⟩=some (.slice A2 ch.length c2):=H3.cell (by omega);have lI:w3.cell? ⟨m,3,none⟩=some (.slice A1 gs.length c1):=H3.Zv.at' 1 (by omega) ((ay (by decide)).trans vK.out);have Bo:w3.cell? ⟨rb,k,none⟩=some (.int .i64 ru):=(H3.fz.now.2.cell k).trans JS;have Fa:=H3.Zv.lt;obtain⟨B,d,w9,hrun,x9,y9,z9,s9,h9⟩:=H3.aaL aai.ok (by omega) OG (by decide) (by decide) (n:=ch.length) rfl (by omega) ⟨ru,(x:Int)⟩ #[.int .i64 ru,.int .i64 x] rfl (by simp[Value.oneCell']) ⟨rfl,eH Jk,(show I64 (x:Int) from⟨by omega,by omega⟩)⟩;have Tm:(w9.setCell ⟨m,4,none⟩ (.slice B (ch.length+1) d)).cell? ⟨m,3,none⟩=some (.slice A1 gs.length c1):=h9.Zv.at' 1 (by omega) ((ay (by decide)).trans vK.out);have Rz:(w9.setCell ⟨m,4,none⟩ (.slice B (ch.length+1) d)).cell? ⟨rb,k,none⟩=some (.int .i64 ru):=(h9.fz.now.2.cell k).trans JS;have x39:w9.cell? ⟨m,3,none⟩=some (.slice A1 gs.length c1):=(s9.mk H3.Zv (by decide)).at' 1 (by omega) ((ay (by decide)).trans vK.out);have Rn:w9.cell? ⟨rb,k,none⟩=some (.int .i64 ru):=((s9.bk H3.fz.now.2 (by decide)).cell k).trans JS;have H9:=hd0 h9;clear _t aO H3 h9 aF hv3 s9))
        all_goals
         have UG:Hid (∀c∈ch++[(⟨ru,(x:Int)⟩:Chr)],N9 c.rune/\In gs.length c.ZF):=hd0 fun c hc=>by
          rw[aa5,aa1] at hc;rcases hc with hc|rfl
          ·exact hoc.out c hc
          exact⟨Jk,show(0:Int)<=x by omega,show(x:Int)<gs.length by omega⟩
         clear hrun x9 y9 z9 x43 lI Bo Tm Rz x39 Rn Fa sh x3 xr x4;go_wp2_with fail
         go_roundw
         case rel=>exact⟨k+1,ch++[(⟨ru,(x:Int)⟩:Chr)],B,d,_,_,by omega,by simp,by(rw[la];show ch.length+1<=k+1;omega),UG,H9⟩
         case measure=>simp[intOf];omega
       have ey:decide ((0:Int)<y)=false:=by simp;omega
       go_wp2_with fail
       go_roundw
       case rel=>exact⟨k+1,ch,A2,c2,cells2,jW,by omega,by simp,by omega,hoc,HL⟩
       case measure=>simp[intOf];omega
      have hk2:ch.length<=16:=by omega
      obtain⟨P6,h6,nO,WJ⟩:∃P6 h6,Hid (SG Wf m (bu F5 2 (.slice A2 ch.length c2)) jS P6 h6 wk)/\Hid (∀w,P6 w->P5 w/\Sl aai 2 w (TR [Cf] (m+1) h6 w) A2 ch):=⟨_,_,hd0 (HS.out.sg aai.ok (by omega)),hd0 fun w h=>⟨h.1.1,h.2⟩⟩
      obtain⟨F6,FQ⟩:∃F,bu F5 2 (.slice A2 ch.length c2)=F:=⟨_,rfl⟩
      have IW:Hid (F6 1= .slice A1 gs.length c1):=by rw[<-FQ];exact hd0 ((ay (by decide)).trans vK.out)
      have rZ:Hid (F6 2= .slice A2 ch.length c2/\F6 8= .slice A8 cv.length c8/\F6 7= .slice A7 fn.length c7/\F6 6= .slice A6 rg.length c6/\F6 5= .slice A5 xs.length c5/\F6 0= .int .i64 u):=by rw[<-FQ];exact hd0 ⟨bH _ _ _,(ay (by decide)).trans vY.out.1,(ay (by decide)).trans vY.out.2.1,(ay (by decide)).trans vY.out.2.2.1,(ay (by decide)).trans vY.out.2.2.2.1,(ay (by decide)).trans vY.out.2.2.2.2⟩
      have NC:Hid (F6 3= .slice none 0 0/\F6 4= .slice none 0 0):=by rw[<-FQ];exact hd0 ⟨(ay (by decide)).trans (JQ.out 3 (by omega) (by omega)),(ay (by decide)).trans (JQ.out 4 (by omega) (by omega))⟩
      rw[FQ] at nO;clear FQ JQ vK vY HS;go_wp2_with fail
      refine(Dw wk m F6 jS gs.length A1 c1 nO.out.Zv IW.out NC.out.1 (by omega) (by omega)).mono ?_;rintro e wl ⟨ls,A3,c3,hls,Vz,rfl,hml,hsl,hvl⟩;have OA:SG Wf m (bu F6 3 (.slice A3 ls.length c3)) jS P6 h6 wl:=⟨hml,nO.out.fz.next (by omega) hvl,lK nO.out.low nO.out.bnd.1 hvl,nO.out.bnd⟩
      have hzl:=hvl.size;have Zd:=nO.out.fz.top;have hmk:=nO.out.Zv.lt;have hsl2:Sl ZE 3 wl (TR (gQ::xe) (m+1) wl.heap.size wl) A3 ls:=hsl.mono ZE.ok (TR.sub (fun _ h=>h) (by omega) (ag _));obtain⟨P7,h7,zh,VT⟩:∃P7 h7,Hid (SG Wf m (bu F6 3 (.slice A3 ls.length c3)) jS P7 h7 wl)/\Hid (∀w,P7 w->P6 w/\Sl ZE 3 w (TR (gQ::xe) (m+1) h7 w) A3 ls):=⟨_,_,hd0 (OA.more (Q:=fun w=>Sl ZE 3 w (TR (gQ::xe) (m+1) wl.heap.size w) A3 ls) (by omega) (ag _) hsl2 (fun w w' hq he=>hq.moved ZE.ok (TR.eqb he))),hd0 fun w h=>h⟩
      obtain⟨F7,gX⟩:∃F,bu F6 3 (.slice A3 ls.length c3)=F:=⟨_,rfl⟩
      have oq:Hid (F7 3= .slice A3 ls.length c3/\F7 1= .slice A1 gs.length c1/\F7 2= .slice A2 ch.length c2/\F7 8= .slice A8 cv.length c8/\F7 7= .slice A7 fn.length c7/\F7 6= .slice A6 rg.length c6/\F7 5= .slice A5 xs.length c5/\F7 0= .int .i64 u):=by rw[<-gX];exact hd0 ⟨bH _ _ _,(ay (by decide)).trans IW.out,(ay (by decide)).trans rZ.out.1,(ay (by decide)).trans rZ.out.2.1,(ay (by decide)).trans rZ.out.2.2.1,(ay (by decide)).trans rZ.out.2.2.2.1,(ay (by decide)).trans rZ.out.2.2.2.2.1,(ay (by decide)).trans rZ.out.2.2.2.2.2⟩
      have Qa:F7 4= .slice none 0 0:=by rw[<-gX];exact(ay (by decide)).trans NC.out.2
      rw[gX] at zh;have WB:=hd0 hls;clear gX NC IW rZ nO hml hsl hsl2 OA hvl hls;go_wp2_with fail
      refine(ES wl).mono ?_;rintro e wn ⟨rfl,hwn⟩;have hbn:Bk wn wl.heap.size 9 nY:=by rw[hwn];exact Bk.new _ _ _
      have hzn:wn.heap.size=wl.heap.size+1:=by rw[hwn];simp
      have hsn:SG Wf m F7 jS P7 h7 wn:=by rw[hwn];exact zh.out.below ((aa0 _ _).alloc (ag _) _)
      have hh7:=zh.out.fz.top;have Ve:=zh.out.Zv.lt;obtain⟨nb,hnb⟩:∃nb,wl.heap.size=nb:=⟨_,rfl⟩
      rw[hnb] at hbn hzn hh7 Ve ⊢;have FN:=hsn.more (Q:=fun w=>Bk w nb 9 nY) (hi2:=wn.heap.size) (by omega) (ag _) hbn (fun w w' hq he=>(he nb (by omega) (by omega)).trans hq);have SA:Hid (MS ZH Wf m F7 jS 4 vW [ax] 2 none 0 [] [] (fun w=>P7 w/\Bk w nb 9 nY) wn.heap.size wn.heap.size wn):=hd0 (FN.ms Qa);generalize wn.heap.size=hE at SA;clear hbn hsn FN hwn zh Qa;go_wp2_with fail
      go_loopw [17] (fun i wr=>∃(k:Nat) (ft:List aad) (A4:Option Addr) (c4:Nat) (cells:List Value) (top:Nat),k<=8/\i= .int .i64 k/\ft.length<=k/\Hid (∀x∈ft,(nameB x.name=true/\∀n∈x.Zu,N9 n)/\x.Zu.length<=6)/\Hid (MS ZH Wf m F7 jS 4 vW [ax] 2 A4 c4 cells ft (fun w=>P7 w/\Bk w nb 9 nY) hE top wr)) (fun i _=>8 - (intOf i).toNat)
      case atStart=>exact⟨0,[],none,0,[],hE,nz _,rfl,nz _,hd0 (by simp),SA⟩
      case round=>
       obtain⟨wo,rfl⟩:∃x,x=wr:=⟨_,rfl⟩
       obtain⟨k,ft,A4,c4,cells4,Yh,hk8,rfl,hft,hoe,HS⟩:=hrel;by_cases yY:k<8
       ·
        have Wv:=hd0 (HS.out.aay ZH.ok HS.out.bnd.2.2.2 (ag _));have Yd:wo.heap.size<=wo.heap.size:=ag _;have YI:=HS.out.bnd.2.2;clear HS;go_wp2_with fail
        have BU:=hd0 yY;clear yY
        rename ((k:Int)<8)=>hbr
        clear hbr;go_loopw [18,19] (fun rv i wr=>∃(q:Nat) (row:List Int) (Ar:Option Addr) (cr:Nat),q<=ls.length/\i= .int .i64 q/\rv= .slice Ar row.length cr/\row.length<=q/\Hid (∀n∈row,N9 n)/\Hid (MS ZH Wf m F7 jS 4 vW [ax] 2 A4 c4 cells4 ft (fun w=>P7 w/\Bk w nb 9 nY) hE wo.heap.size wr)/\Hid (wr.ownsRow wo.heap.size ax 1 (.slice Ar row.length cr) row.length (aI row))) (fun _ i _=>ls.length - (intOf i).toNat)
        case atStart=>exact⟨0,[],none,0,nz _,rfl,rfl,nz _,hd0 (by simp),Wv,hd0 (World.ownsRow_nil _ _ _ _)⟩
        case round=>
         obtain⟨wq,rfl⟩:∃x,x=wr:=⟨_,rfl⟩
         obtain⟨q,row,Ar,cr,hq,rfl,rfl,hrq,hor,HM,HO⟩:=hrel;have x5:wq.cell? ⟨m,5,none⟩=some (.slice A3 ls.length c3):=HM.out.Zv.at' 3 (by omega) ((ay (by decide)).trans oq.out.1);by_cases hlt6:q<ls.length
         ·go_wp2_with fail
          refine(ak wq m (bu F7 4 (.slice A4 ft.length c4)) jS 3 HM.out.Zv (by omega) (by omega)).mono ?_;rintro e wr2 ⟨x,hx,rfl,hm2,hv2⟩;have tK:=hd0 ((Sp.next HM.out.Zv hv2).own HO.out (by decide));have kH:=hd0 (HM.out.next ZH.ok (by decide) hm2 hv2);clear hm2 hv2 x5;by_cases hx0:x=0
          ·have e0:((x:Int)==0)=true:=by simp;omega
           have Ul:=kH.out.bnd.2.2.2;clear hx0;go_wp2_with (at_builtin;refine pq jC rfl (.tmp 218) (.tmp 220) rfl wr2 wr2.heap.size rfl wo.heap.size row.length cr Ar (aI row) #[.int .i64 q] rfl rfl rfl tK.out (by simp[Value.oneCell']) (by omega) Ul ?_;intro A9 c9 w5 h5 g5 l5;have tV:=hd0 h5;have oO:=hd0 g5;clear h5 g5 l5)
           have zO:=hd0 (kH.out.push ZH.ok tK.out (ag _) oO.out (by decide) (by decide));have yV:Hid (w5.ownsRow wo.heap.size ax 1 (.slice A9 (row++[(q:Int)]).length c9) (row++[(q:Int)]).length (aI (row++[(q:Int)]))):=hd0 (by simpa [aI,cI] using tV.out);have hor2:Hid (∀n∈row++[(q:Int)],N9 n):=hd0 fun z hz=>by
            rw[aa5,aa1] at hz;rcases hz with hz|rfl
            ·exact hor.out z hz
            unfold N9;omega
           go_roundw
           case rel=>exact⟨q+1,row++[(q:Int)],A9,c9,by omega,by simp,by simp,by(rw[la];show row.length+1<=q+1;omega),hor2,zO,yV⟩
           case measure=>simp[intOf];omega
          have e0:((x:Int)==0)=false:=by simp;omega
          clear hx0;go_wp2_with fail
          go_roundw
          case rel=>exact⟨q+1,row,Ar,cr,by omega,by simp,rfl,by omega,hor,kH,tK⟩
          case measure=>simp[intOf];omega
         go_wp2_with fail
         refine(ak wq m (bu F7 4 (.slice A4 ft.length c4)) jS 2 HM.out.Zv (by omega) (by omega)).mono ?_;rintro e wr2 ⟨x,hx,rfl,hm2,hv2⟩;have tK:=hd0 ((Sp.next HM.out.Zv hv2).own HO.out (by decide));have kH:=hd0 (HM.out.next ZH.ok (by decide) hm2 hv2);clear hm2 hv2 x5;by_cases hx0:x=0
         ·have e0:((x:Int)==0)=true:=by simp;omega
          have yY:=BU.out;obtain⟨nm,Xh,hnm⟩:=Lu k yY;have x6:wr2.cell? ⟨m,6,none⟩=some (.slice A4 ft.length c4):=kH.out.cell (by omega);have xn:wr2.cell? ⟨nb,k,none⟩=some (.string ⟨nm.toArray⟩):=(kH.out.fz.now.2.cell k).trans Xh;have XN:=kH.out.Zv.lt;have YK:=kH.out.fz.now.2.lt;have sf:=SF.out;have Fv:ZH wr2.drew (TR [ax] hE wr2.drew.heap.size wr2.drew) [.string ⟨nm.toArray⟩,.slice Ar row.length cr] ⟨nm,row⟩:=⟨Ar,cr,rfl,nC (lo:=hE) (show wr2.drew.ownsRow wo.heap.size ax 1 (.slice Ar row.length cr) row.length (aI row) from tK.out) (dU _ _ row (fun n hn=>eH (hor.out n hn))) (by simp) (by omega) (by omega)⟩
          obtain⟨B,d,w9,hrun,x9,y9,z9,h9⟩:=(kH.out.drew ZH.ok).more ZH.ok (by omega) Pi (by decide) (by decide) (n:=ft.length) rfl (by omega) ⟨nm,row⟩ #[.string ⟨nm.toArray⟩,.slice Ar row.length cr] rfl (by simp[Value.oneCell']) Fv;have Dy:(Builtin.append_ #[27,27] 27 #[.slice A4 ft.length c4,.slice (some ⟨wr2.heap.size,0,none⟩) 1 1]).run Tryd.prog (wr2.alloc (.cells #[.string ⟨nm.toArray⟩,.slice Ar row.length cr] vW)).drew= .ok (.slice B (ft.length+1) d) w9:=hrun;have H9:=hd0 h9;have Vf:Hid (∀x∈ft++[(⟨nm,row⟩:aad)],(nameB x.name=true/\∀n∈x.Zu,N9 n)/\x.Zu.length<=6):=hd0 fun z hz=>by
           rw[aa5,aa1] at hz;rcases hz with hz|rfl
           ·exact hoe.out z hz
           exact⟨⟨hnm,hor.out⟩,show row.length<=6 by omega⟩
          clear h9 hrun Fv hx0;go_wp2_with fail
          go_region
          all_goals
           go_wp2_with fail
           go_roundw
           case rel=>exact⟨k+1,ft++[(⟨nm,row⟩:aad)],B,d,_,_,by omega,by simp,by(rw[la];show ft.length+1<=k+1;omega),Vf,H9⟩
           case measure=>simp[intOf];omega
         have e0:((x:Int)==0)=false:=by simp;omega
         clear hx0;go_wp2_with fail
         have yY:=BU.out;go_roundw
         case rel=>exact⟨k+1,ft,A4,c4,cells4,_,(show k+1<=8 from BU.out),by simp,by omega,hoe,kH⟩
         case measure=>simp[intOf];omega
       have Va:ft.length<=8:=by omega
       obtain⟨P8,h8,kM,VG⟩:∃P8 h8,Hid (SG Wf m (bu F7 4 (.slice A4 ft.length c4)) jS P8 h8 wo)/\Hid (∀w,P8 w->P7 w/\Sl ZH 2 w (TR [vW,ax] (m+1) h8 w) A4 ft):=⟨_,_,hd0 (HS.out.sg ZH.ok (by omega)),hd0 fun w h=>⟨h.1.1,h.2⟩⟩
       clear HS;have y2:wo.cell? ⟨m,2,none⟩=some (.int .i64 u):=kM.out.Zv.at' 0 (by omega) ((ay (by decide)).trans oq.out.2.2.2.2.2.2.2);have y3:wo.cell? ⟨m,3,none⟩=some (.slice A1 gs.length c1):=kM.out.Zv.at' 1 (by omega) ((ay (by decide)).trans oq.out.2.1);have y4:wo.cell? ⟨m,4,none⟩=some (.slice A2 ch.length c2):=kM.out.Zv.at' 2 (by omega) ((ay (by decide)).trans oq.out.2.2.1);have y5:wo.cell? ⟨m,5,none⟩=some (.slice A3 ls.length c3):=kM.out.Zv.at' 3 (by omega) ((ay (by decide)).trans oq.out.1);have y6:wo.cell? ⟨m,6,none⟩=some (.slice A4 ft.length c4):=kM.out.Zv.at' 4 (by omega) (bH _ _ _);have y7:wo.cell? ⟨m,7,none⟩=some (.slice A5 xs.length c5):=kM.out.Zv.at' 5 (by omega) ((ay (by decide)).trans oq.out.2.2.2.2.2.2.1);have y8:wo.cell? ⟨m,8,none⟩=some (.slice A6 rg.length c6):=kM.out.Zv.at' 6 (by omega) ((ay (by decide)).trans oq.out.2.2.2.2.2.1);have y9:wo.cell? ⟨m,9,none⟩=some (.slice A7 fn.length c7):=kM.out.Zv.at' 7 (by omega) ((ay (by decide)).trans oq.out.2.2.2.2.1);have Zk:wo.cell? ⟨m,10,none⟩=some (.slice A8 cv.length c8):=kM.out.Zv.at' 8 (by omega) ((ay (by decide)).trans oq.out.2.2.2.1);have hlow:=kM.out.low;have xw:Bk wo w.heap.size iM zeroFn:=(hlow.block _ (by omega)).trans BF.out;have hst:=run_storeVar_row (P:=Tryd.prog) wo w.heap.size iM iM zeroFn #[.int .i64 u,.slice A1 gs.length c1,.slice A2 ch.length c2,.slice A3 ls.length c3,.slice A4 ft.length c4,.slice A5 xs.length c5,.slice A6 rg.length c6,.slice A7 fn.length c7,.slice A8 cv.length c8] xw (by rw[uD];rfl) rfl (by simp[Value.oneCell']);have AL:=setRow_heap wo w.heap.size zeroFn #[.int .i64 u,.slice A1 gs.length c1,.slice A2 ch.length c2,.slice A3 ls.length c3,.slice A4 ft.length c4,.slice A5 xs.length c5,.slice A6 rg.length c6,.slice A7 fn.length c7,.slice A8 cv.length c8] iM (0,0) xw;have heq:∀b,b≠w.heap.size->(wo.setRow w.heap.size #[.int .i64 u,.slice A1 gs.length c1,.slice A2 ch.length c2,.slice A3 ls.length c3,.slice A4 ft.length c4,.slice A5 xs.length c5,.slice A6 rg.length c6,.slice A7 fn.length c7,.slice A8 cv.length c8]).heap[b]? =wo.heap[b]? :=fun b hb=>setRow_other wo w.heap.size b _ hb
       have p8:=kM.out.fz.keep _ (wo.setRow w.heap.size #[.int .i64 u,.slice A1 gs.length c1,.slice A2 ch.length c2,.slice A3 ls.length c3,.slice A4 ft.length c4,.slice A5 xs.length c5,.slice A6 rg.length c6,.slice A7 fn.length c7,.slice A8 cv.length c8]) kM.out.fz.now (fun b h1 h2=>heq b (by omega));have hbw:Below w.heap.size w (wo.setRow w.heap.size #[.int .i64 u,.slice A1 gs.length c1,.slice A2 ch.length c2,.slice A3 ls.length c3,.slice A4 ft.length c4,.slice A5 xs.length c5,.slice A6 rg.length c6,.slice A7 fn.length c7,.slice A8 cv.length c8]):=(LF.out.trans (hlow.mono (by omega))).trans ⟨rfl,rfl,rfl,by simp,fun b hb=>heq b (by omega)⟩;generalize hwE:wo.setRow w.heap.size #[.int .i64 u,.slice A1 gs.length c1,.slice A2 ch.length c2,.slice A3 ls.length c3,.slice A4 ft.length c4,.slice A5 xs.length c5,.slice A6 rg.length c6,.slice A7 fn.length c7,.slice A8 cv.length c8]=wE at hst AL p8 hbw;clear hwE heq;obtain⟨p7,s8⟩:=VG.out wE p8;obtain⟨p6,s7⟩:=VT.out wE p7;obtain⟨p5,s6⟩:=WJ.out wE p6;obtain⟨p4,s5⟩:=Pm.out wE p5;obtain⟨p3,s4⟩:=Xj.out wE p4;obtain⟨p2,s3⟩:=WA.out wE p3;obtain⟨p1,s2⟩:=HP2.out wE p2;have s1:=XI.out wE p1;have hpost:oG w (.returned (.agg #[.int .i64 u,.slice A1 gs.length c1,.slice A2 ch.length c2,.slice A3 ls.length c3,.slice A4 ft.length c4,.slice A5 xs.length c5,.slice A6 rg.length c6,.slice A7 fn.length c7,.slice A8 cv.length c8])) wE:=by refine⟨⟨u,gs,ch,ls,ft,xs,rg,fn,cv⟩,[.int .i64 u,.slice A1 gs.length c1,.slice A2 ch.length c2,.slice A3 ls.length c3,.slice A4 ft.length c4,.slice A5 xs.length c5,.slice A6 rg.length c6,.slice A7 fn.length c7,.slice A8 cv.length c8],Ko Sj ⟨hox.out,WF.out⟩ V6.out ⟨hov.out,Ut⟩ ⟨hof.out,hfn2⟩ ⟨hog.out,hg2,Ip⟩ ⟨hoc.out,hk2⟩ ⟨WB.out,Vz⟩ ⟨hoe.out,Va⟩,rfl,?_,hbw⟩;exact⟨A1,c1,A2,c2,A3,c3,A4,c4,A5,c5,A6,c6,A7,c7,A8,c8,rfl,eH Sj,s5.mono ZK.ok (TR.tf (by decide)),s6.mono aai.ok (TR.tf (by decide)),s7.mono ZE.ok (TR.tf (by decide)),s8.mono ZH.ok (TR.tf (by decide)),s1.mono ZY.ok (TR.tf (by decide)),s2.mono ZJ.ok (TR.tf (by decide)),s3.mono ZW.ok (TR.tf (by decide)),s4.mono Zx.ok (TR.tf (by decide))⟩
       have uo:=hd0 hpost;have Bc:=hd0 AL;clear hpost AL s1 s2 s3 s4 s5 s6 s7 s8 p1 p2 p3 p4 p5 p6 p7 p8 hbw xw hlow;go_wp2_with fail
       exact bodyPost_ret (yD Bc.out rfl) rfl uo.out
end Go.Proofs.YtkijckccfookeaaDoor
