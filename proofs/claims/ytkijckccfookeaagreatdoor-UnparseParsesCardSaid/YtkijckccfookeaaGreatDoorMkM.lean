/- Lemmas. -/
import Derived.Test.YtkijckccfookeaaGreatDoorMkGl
import Derived.Test.YtkijckccfookeaaGreatDoorMkAx
import Derived.Test.YtkijckccfookeaaGreatDoorMkLk
set_option linter.unusedVariables false
set_option linter.unusedSimpArgs false
set_option maxRecDepth 100000
set_option maxHeartbeats 32000000
namespace Go.Proofs.YtkijckccfookeaaGreatDoor
open Go.RowKit
attribute [-go_sem] Builtin.append_
abbrev oU:TypeId:=32
abbrev kw:TypeId:=101
abbrev rP:TypeId:=104
abbrev Gt:TypeId:=57
abbrev Tu:TypeId:=93
abbrev Jq:TypeId:=97
theorem QR (t:TypeId)(h:(Tryz.prog.info? t).map (·.size)=some 1)(w:World):(sizeOf t).run Tryz.prog w= .ok 1 w:=by obtain⟨i,hi,hs⟩:=Option.map_eq_some_iff.1 h;simp[sizeOf,typeInfo,hi,hs]
theorem qG (t:TypeId)(h:(Tryz.prog.info? t).map (·.size)=some 1)(A:Option Addr)(n c:Nat)(a:Addr)(w:World):(storeVar t a (.slice A n c)).run Tryz.prog w=(store a (.slice A n c)).run Tryz.prog w:=by
 have hz:=QR t h
 go_simp
theorem aez (t:TypeId)(h:(Tryz.prog.info? t).map (·.size)=some 1)(k:IntKind)(z:Int)(a:Addr)(w:World):(storeVar t a (.int k z)).run Tryz.prog w=(store a (.int k z)).run Tryz.prog w:=by
 have hz:=QR t h
 go_simp
attribute [-go_sem] storeVar
theorem YZ (w:World):Calls Tryz.prog 62 #[] w fun e w'=>e= .returned (.slice (some ⟨w.heap.size,0,none⟩) 16 16)/\w'=w.alloc (.cells #[.int .i64 97,.int .i64 98,.int .i64 99,.int .i64 102,.int .i64 105,.int .i64 108,.int .i64 57345,.int .i64 57346,.int .i64 57601,.int .i64 57602,.int .i64 57603,.int .i64 57857,.int .i64 57861,.int .i64 58113,.int .i64 58114,.int .i64 58369] aQ):=by
 go_enter Tryz.func62,Tryz.ntmps62
 go_wp2;go_ret
 exact⟨rfl,rfl⟩
def afx:List B:=[[108,105,103,97],[105,115,111,108],[105,110,105,116],[109,101,100,105],[102,105,110,97],[107,101,114,110],[109,97,114,107],[99,97,108,116]]
def yY:Array Value:=(afx.map fun(s:B)=>Value.string ⟨s.toArray⟩).toArray
theorem VQ (w:World):Calls Tryz.prog 64 #[] w fun e w'=>e= .returned (.slice (some ⟨w.heap.size,0,none⟩) 8 8)/\w'=w.alloc (.cells yY 9):=by
 go_enter Tryz.func64,Tryz.ntmps64
 go_wp2;go_ret
 exact⟨rfl,rfl⟩
def zeroFn:Array Value:= #[.int .i64 0,.slice none 0 0,.slice none 0 0,.slice none 0 0,.slice none 0 0,.slice none 0 0,.slice none 0 0,.slice none 0 0,.slice none 0 0]
def Vt (t:alv):List Value:=[.int .i64 t.start,.int .i64 t.peak,.int .i64 t.stop]
def PO (l:List alv):List Value:=l.flatMap Vt
theorem Zd (w:World)(S:Bs)(l:List alv)(h:∀x∈l,I64 x.start/\I64 x.peak/\I64 x.stop):Fl alM 3 w S (PO l) l:=uh w S Vt l (fun _ _=>rfl) (fun x hx=>⟨rfl,h x hx⟩)
theorem MS.akY {Wf:World}{m:Nat}{F:Nat->Value}{lp lp2:Int}{A1:Option Addr}{c1:Nat}{cells:List Value}{gs:List akN}{P:World->Prop}{hi top:Nat}{wr w2:World}{g:akN}{nc:List Value}{B:Option Addr}{d:Nat}(h:MS akQ Wf m F lp 1 jB Hl 9 A1 c1 cells gs P hi top wr)
  (hm:Mk w2 m (dR F 1 (.slice B (gs.length+1) d)) lp2) (ho:w2.ownsRow hi jB 9 (.slice B (gs.length+1) d) (gs.length+1) (cells++nc)) (hn:nc.length=9) (hg:akQ w2 (TR [yI,aQ,vJ,vV,nN,pz] wr.heap.size w2.heap.size w2) nc g) (hv:Mv2 m (Value.slice A1 gs.length c1).ownBlock wr w2):
  MS akQ Wf m F lp2 1 jB Hl 9 B d (cells++nc) (gs++[g]) P hi w2.heap.size w2:=by
 obtain⟨b1,b2,b3,b4⟩:=h.bnd;have hz:=hv.size;have hl:(gs++[g]).length=gs.length+1:=by simp
 have hlt:∀x,(Value.slice A1 gs.length c1).ownBlock=some x->hi<=x:=fun x hx=>(h.row.lt x hx).1
 refine⟨by rw[hl];exact hm,by rw[hl];exact ho,?_,hv.fz (by omega) hlt h.fz,?_,b1,b2,by omega,af _⟩
 ·have key:∀b,TR Hl hi top wr b->w2.heap[b]? =wr.heap[b]? :=fun b ⟨h1,cs,t,hk,htt⟩=>hv.block b hk.lt (by omega) (fun e=>by
   obtain⟨cur,hb⟩:=iG h.row b e;have:=(bU hb hk).1;subst this;exact absurd htt (by decide))
  have h1:Fl akQ 9 w2 (TR Hl hi top w2) cells gs:=h.fl.moved akQ.ok ⟨key,fun b hb=>by
   obtain⟨h1,cs,t,hk,htt⟩:=hb;exact⟨h1,cs,t,(key b ⟨h1,cs,t,hk,htt⟩).trans hk,htt⟩⟩
  exact(h1.mono akQ.ok (TR.sub (fun _ h=>h) (af _) (by omega))).append (Fl.one (akQ.ok.mono hg (TR.sub (fun _ h=>h) (by omega) (af _))) hn)
 exact⟨hv.os.trans h.low.os,hv.tape.trans h.low.tape,hv.output.trans h.low.output,nt h.low.size hz,fun i hi'=>(hv.block i (by have:=h.low.size;omega) (by omega) (fun e=>by have:=hlt i e;omega)).trans (h.low.block i hi')⟩
structure TG (Wf:World)(m:Nat)(F:Nat->Value)(P:World->Prop)(hB rb:Nat)(A6:Option Addr)(c6:Nat)(cells:List Value)(rg:List Region)(ts:List alv)(A:Option Addr)(c:Nat)(wr:World):Prop where
 ms:MS akU Wf m F 0 6 rP [kw] 1 A6 c6 cells rg P hB rb wr
 bk:Bk wr rb rP #[.slice A ts.length c]
 row:wr.ownsRow (rb+1) kw 3 (.slice A ts.length c) ts.length (PO ts)
 ne:∀x,(Value.slice A6 rg.length c6).ownBlock=some x->x≠rb
section
variable {Wf:World} {m:Nat} {F:Nat->Value} {P:World->Prop} {hB rb:Nat} {A6:Option Addr} {c6:Nat} {cells:List Value} {rg:List Region} {ts:List alv} {A:Option Addr} {c:Nat} {wr w2:World}
theorem TG.next (h:TG Wf m F P hB rb A6 c6 cells rg ts A c wr)(hm:Mk w2 m (dR F 6 (.slice A6 rg.length c6)) 0)(hv:Mv m wr w2):TG Wf m F P hB rb A6 c6 cells rg ts A c w2:=⟨h.ms.next akU.ok (by decide) hm hv,(Sp.next h.ms.mkr hv).bk h.bk (by decide),(Sp.next h.ms.mkr hv).own h.row (by decide),h.ne⟩
theorem TG.below (h:TG Wf m F P hB rb A6 c6 cells rg ts A c wr)(hb:Below wr.heap.size wr w2):TG Wf m F P hB rb A6 c6 cells rg ts A c w2:=by have s:Sp m mQ wr w2:=Sp.below hb;exact⟨h.ms.below akU.ok hb,s.bk h.bk (by decide),s.own h.row (by decide),h.ne⟩
theorem TG.drew (h:TG Wf m F P hB rb A6 c6 cells rg ts A c wr):TG Wf m F P hB rb A6 c6 cells rg ts A c wr.drew:=h.below (ant _ _).drew
theorem TG.alloc (h:TG Wf m F P hB rb A6 c6 cells rg ts A c wr)(o:Obj):TG Wf m F P hB rb A6 c6 cells rg ts A c (wr.alloc o):=h.below ((ant _ _).alloc (af _) o)
theorem TG.more (h:TG Wf m F P hB rb A6 c6 cells rg ts A c wr)(hl:ts.length<=1000)(v1 v2 v3:Int):
  ∃B d w9,(Builtin.append_ #[102,102] 102 #[.slice A ts.length c,.slice (some ⟨wr.heap.size,0,none⟩) 1 1]).run Tryz.prog (wr.alloc (.cells #[.int .i64 v1,.int .i64 v2,.int .i64 v3] kw))= .ok (.slice B (ts.length+1) d) w9/\
   w9.cell? ⟨rb,0,none⟩=some (.slice A ts.length c)/\w9.frozen? ⟨rb,0,none⟩=false/\rb<w9.heap.size/\TG Wf m F P hB rb A6 c6 cells rg (ts++[⟨v1,v2,v3⟩]) B d (w9.setCell ⟨rb,0,none⟩ (.slice B (ts.length+1) d)):=by
 have hrb:=h.bk.lt;obtain⟨b1,b2,b3,b4⟩:=h.ms.bnd;obtain⟨B,d,w9,hrun,aS,ax,bi⟩:=iJ Yo 102 wr (rb+1) _ c A _ #[.int .i64 v1,.int .i64 v2,.int .i64 v3] rfl h.row (by simp[Value.oneCell']) (by omega) (by omega);have s:Sp m kw wr w9:=Sp.push h.row (by omega) ax;have Rj:=s.bk h.bk (by decide);have ms9:=h.ms.push akU.ok h.row (by omega) ax (by decide) (by decide);have rE:w9.grownBy (w9.setCell ⟨rb,0,none⟩ (.slice B (ts.length+1) d)) (some rb):=aU (World.grownBy.refl _ _) (.inl rfl) _;have s10:Sp m rP w9 (w9.setCell ⟨rb,0,none⟩ (.slice B (ts.length+1) d)):=Sp.set Rj (by omega) 0 _;have hn:(ts++[(⟨v1,v2,v3⟩:alv)]).length=ts.length+1:=by simp
 refine⟨B,d,w9,hrun,Rj.cell 0,Rj.frozen 0,Rj.lt,ms9.box akU.ok rE (af _) Rj h.ne (by decide),?_,?_,h.ne⟩
 ·rw[hn];exact Rj.set 0 _
 rw[hn];have:=s10.own aS (by decide);simpa [PO,Vt] using this
end
theorem Rz (x:Nat)(h:x<5):∃a b c:Int,(#[.int .i64 0,.int .i64 64,.int .i64 64,.int .i64 0,.int .i64 32,.int .i64 64,.int .i64 (-64),.int .i64 (-64),.int .i64 0,.int .i64 (-1),.int .i64 0,.int .i64 5,.int .i64 10,.int .i64 32,.int .i64 50]:Array Value)[x*3]? =some (.int .i64 a)/\(#[.int .i64 0,.int .i64 64,.int .i64 64,.int .i64 0,.int .i64 32,.int .i64 64,.int .i64 (-64),.int .i64 (-64),.int .i64 0,.int .i64 (-1),.int .i64 0,.int .i64 5,.int .i64 10,.int .i64 32,.int .i64 50]:Array Value)[x*3+1]? =some (.int .i64 b)/\(#[.int .i64 0,.int .i64 64,.int .i64 64,.int .i64 0,.int .i64 32,.int .i64 64,.int .i64 (-64),.int .i64 (-64),.int .i64 0,.int .i64 (-1),.int .i64 0,.int .i64 5,.int .i64 10,.int .i64 32,.int .i64 50]:Array Value)[x*3+2]? =some (.int .i64 c)/\N9 a/\N9 b/\N9 c:=by
 have:x=0\/x=1\/x=2\/x=3\/x=4:=by omega
 unfold N9;rcases this with rfl|rfl|rfl|rfl|rfl<;>exact⟨_,_,_,rfl,rfl,rfl,by omega,by omega,by omega⟩
theorem abB (k:Nat)(h:k<16):∃u:Int,(#[.int .i64 97,.int .i64 98,.int .i64 99,.int .i64 102,.int .i64 105,.int .i64 108,.int .i64 57345,.int .i64 57346,.int .i64 57601,.int .i64 57602,.int .i64 57603,.int .i64 57857,.int .i64 57861,.int .i64 58113,.int .i64 58114,.int .i64 58369]:Array Value)[k]? =some (.int .i64 u)/\N9 u:=by
 have:k=0\/k=1\/k=2\/k=3\/k=4\/k=5\/k=6\/k=7\/k=8\/k=9\/k=10\/k=11\/k=12\/k=13\/k=14\/k=15:=by omega
 unfold N9;rcases this with rfl|rfl|rfl|rfl|rfl|rfl|rfl|rfl|rfl|rfl|rfl|rfl|rfl|rfl|rfl|rfl<;>exact⟨_,rfl,by omega,by omega⟩
theorem ab8 (k:Nat)(h:k<8):∃s:B,yY[k]? =some (.string ⟨s.toArray⟩)/\nameB s=true:=by
 have:k=0\/k=1\/k=2\/k=3\/k=4\/k=5\/k=6\/k=7:=by omega
 rcases this with rfl|rfl|rfl|rfl|rfl|rfl|rfl|rfl<;>exact⟨_,rfl,by decide⟩
theorem Ie:(Tryz.prog.info? oU).map (·.size)=some 9:=by kernel_rfl
theorem Na {W:World}{g:Nat}{cs:Array Value}{tmps:Array Value}(hb:W.heap[g]? =some (.cells cs oU (0,0)))(hsz:cs.size=9)(h2:tmps.getD 2 undef= .pointer (some ⟨g,0,none⟩):=by rfl):(results Tryz.f34 tmps).run Tryz.prog W= .ok (.agg cs) W:=by rw[ql (fn:=Tryz.f34) (p:=2) (ty:=oU) rfl,h2];have:=run_loadVar_row (P:=Tryz.prog) W g oU oU cs (0,0) _ hb Tryz.underlying32 rfl (by rw[Ie,hsz]);simp[asAddr,Result.andThen,this]
theorem aba (x:Nat)(h:x<4):∃u:Int,(#[.int .i64 1000,.int .i64 1024,.int .i64 100,.int .i64 2048]:Array Value)[x]? =some (.int .i64 u)/\N9 u:=by
 have:x=0\/x=1\/x=2\/x=3:=by omega
 unfold N9;rcases this with rfl|rfl|rfl|rfl<;>exact⟨_,rfl,by omega,by omega⟩
abbrev tsF:List TypeId:=[jB,yI,aQ,vJ,vV,nN,pz,tRow,vP,dA,nM,qA,kw,rP,Gt,Tu,Jq]
def Tf (w:World):Bs:=fun b=>∃cs t,Bk w b t cs/\t∈tsF
theorem TR.tf {ts:List TypeId}{lo hi:Nat}{w:World}(h:∀t∈ts,t∈tsF):∀b,TR ts lo hi w b->Tf w b:=fun _ ⟨_,cs,t,h1,h2⟩=>⟨cs,t,h1,h t h2⟩
theorem Tf.lt {w:World}:∀b,Tf w b->b<w.heap.size:=fun _ ⟨_,_,h,_⟩=>h.lt
def zi (w:World)(e:Ending)(w':World):Prop:=∃(f:Fnt) (fc:List Value),amj f/\e= .returned (.agg fc.toArray)/\aln w' (Tf w') fc f/\Below w.heap.size w w'
def fs0:Nat->Value:=fun i=>if i=0 then .int .i64 0 else .slice none 0 0
theorem TV {w Wf Wm:World}{A:Option Addr}{n:Nat}{zs:List Int}(hbf:Below w.heap.size w Wf)(Xt:w.heap.size<=Wf.heap.size)(hr:Rd w w.heap.size A n 1 (aH zs))(hz:∀z∈zs,I64 z)(hn:n<=1000000000)(c:Nat)
  (hW:(Wf.alloc (.cells #[.slice A n c,.int .i64 0,.int .i64 0,.slice none 0 0,.slice none 0 0,.slice none 0 0,.slice none 0 0,.slice none 0 0,.slice none 0 0,.slice none 0 0,.slice none 0 0,.int .i64 0] mQ)).alloc (.cells #[.int .i64 1000,.int .i64 1024,.int .i64 100,.int .i64 2048] aQ)=Wm):
  Mk Wm Wf.heap.size fs0 0/\Below Wf.heap.size Wf Wm/\Bk Wm (Wf.heap.size+1) aQ #[.int .i64 1000,.int .i64 1024,.int .i64 100,.int .i64 2048]/\Wm.heap.size=Wf.heap.size+2:=by
 have hb:Below Wf.heap.size Wf Wm:=by rw[<-hW];exact((ant _ _).alloc (af _) _).alloc (by simp) _
 refine⟨⟨A,n,c,0,zs,?_,nz _,hn,?_,hz⟩,hb,?_,?_⟩
 ·rw[<-hW];exact(Bk.new _ _ _).alloc _
 ·exact((hr.below hbf (af _)).mono Xt).below hb (af _)
 ·rw[<-hW];exact ak _ _ (by simp)
 rw[<-hW];simp
def aeR:Op:=Op.load 25 (Operand.tmp 176)
attribute [go_sem] aeR
theorem V8 (w:World)(A:Option Addr)(n c:Nat)(zs:List Int)(hr:Rd w w.heap.size A n 1 (aH zs))(hz:∀z∈zs,I64 z)(hn:n<=1000000000):Calls Tryz.prog 34 #[.slice A n c] w (zi w):=by
 have HR:=hd0 hr;have HZ:=hd0 hz;have SI:=hd0 (aez aQ (by kernel_rfl) .i64);have SR:=hd0 (qG 29 (by kernel_rfl));have SC:=hd0 (qG 30 (by kernel_rfl));have SN:=hd0 (qG 22 (by kernel_rfl));have SH:=hd0 (qG 25 (by kernel_rfl));have SF:=hd0 (qG 27 (by kernel_rfl));have ST:=hd0 (qG 102 (by kernel_rfl));have SX:=hd0 (qG 28 (by kernel_rfl));clear hr hz;go_enter Tryz.func34,Tryz.ntmps34
 go_wp2_with fail
 obtain⟨Wf,hWf⟩:∃Wf,w.alloc (.cells #[.int .i64 0,.slice none 0 0,.slice none 0 0,.slice none 0 0,.slice none 0 0,.slice none 0 0,.slice none 0 0,.slice none 0 0,.slice none 0 0] oU)=Wf:=⟨_,rfl⟩
 have hBf:Bk Wf w.heap.size oU zeroFn:=by rw[<-hWf];exact Bk.new _ _ _
 have hbf:Below w.heap.size w Wf:=by rw[<-hWf];exact(ant _ _).alloc (af _) _
 have Xt:w.heap.size+1=Wf.heap.size:=by rw[<-hWf];simp
 obtain⟨Wm,hWm⟩:∃Wm,(Wf.alloc (.cells #[.slice A n c,.int .i64 0,.int .i64 0,.slice none 0 0,.slice none 0 0,.slice none 0 0,.slice none 0 0,.slice none 0 0,.slice none 0 0,.slice none 0 0,.slice none 0 0,.int .i64 0] mQ)).alloc (.cells #[.int .i64 1000,.int .i64 1024,.int .i64 100,.int .i64 2048] aQ)=Wm:=⟨_,rfl⟩
 rw[hWf,hWm,Xt];have BF:=hd0 hBf;have LF:=hd0 hbf;obtain⟨m,hm⟩:∃m,Wf.heap.size=m:=⟨_,rfl⟩
 obtain⟨hkm,hlm,hbk,hzm⟩:=TV hbf (by rw[<-Xt];exact Nat.le_succ _) HR.out HZ.out hn c hWm;rw[hm] at hkm hbk hzm Xt ⊢;have HK:=hd0 hkm;have HL:=hd0 hlm;clear hWf hWm hBf hbf hkm hlm;refine(az Wm m fs0 0 4 HK.out (by omega) (by omega)).mono ?_;rintro e w2 ⟨x,hx,rfl,hm2,hv2⟩;have hb2:=(Sp.next HK.out hv2).bk hbk (by decide);obtain⟨u,hu,NY⟩:=aba x hx;have qx:w2.cell? ⟨m+1,x,none⟩=some (.int .i64 u):=by rw[hb2.cell];exact hu
 have q2:w2.cell? ⟨m,2,none⟩=some (.int .i64 0):=hm2.at' 0 (by omega) rfl;have f2:=hm2.frozen 2;have zm2:=hm2.lt;have si:=SI.out;have lC:=hd0 hm2;have HL2:=hd0 (wO HL.out (Nat.le_of_eq hm) hv2);clear hm2 hv2 hbk HK HL hb2 hu;go_wp2_with fail
 obtain⟨F0,hF0⟩:∃F,dR fs0 0 (.int .i64 u)=F:=⟨_,rfl⟩
 have hu0:F0 0= .int .i64 u:=by rw[<-hF0];rfl
 have HN:Hid (∀i,1<=i->F0 i= .slice none 0 0):=hd0 (fun i hi=>by rw[<-hF0,aV (by omega)];exact if_neg (by omega));have HU:=hd0 hu0;have hk3:=lC.out.put 0 (by omega) (.int .i64 u);have hv3:=lC.out.mvp 2 (.int .i64 u);rw[hF0] at hk3;obtain⟨w3,hw3⟩:∃w3,w2.setCell ⟨m,2,none⟩ (.int .i64 u)=w3:=⟨_,rfl⟩
 rw[hw3] at hk3 hv3 ⊢;have jX:=hd0 hk3;have rf:=hd0 (wO HL2.out (Nat.le_of_eq hm) hv3);clear hw3 hk3 hv3 lC HL2 qx q2 f2 hF0 hu0 si;refine(az w3 m F0 0 3 jX.out (by omega) (by omega)).mono ?_;rintro e w4 ⟨ka,hka,rfl,hm4,hv4⟩;have hl4:=wO rf.out (Nat.le_of_eq hm) hv4;have ajI:=hm4.lt;have tu:Hid (MS ale Wf m F0 0 5 qA [] 4 none 0 [] [] (fun _=>True) w4.heap.size w4.heap.size w4):=hd0 (MS.start hm4 (HN.out 5 (by omega)) (Fzn.true (hi:=m+1) (by omega)) hl4 ⟨by omega,by omega⟩);generalize w4.heap.size=hA at tu;clear hm4 hv4 hl4 jX rf;go_wp2_with fail
 go_loopw [5] (fun i wr=>∃(xs:List alG) (A5:Option Addr) (c5:Nat) (cells:List Value) (top:Nat),xs.length<=ka/\i= .int .i64 xs.length/\Hid ((∀a∈xs,nameB a.name=true/\N9 a.min'/\N9 a.alI/\N9 a.max'))/\Hid (MS ale Wf m F0 0 5 qA [] 4 A5 c5 cells xs (fun _=>True) hA top wr)) (fun i _=>ka - (intOf i).toNat)
 case atStart=>exact⟨[],none,0,[],hA,nz _,rfl,hd0 (by simp),tu⟩
 case round=>
  obtain⟨wa,rfl⟩:∃x,x=wr:=⟨_,rfl⟩
  obtain⟨xs,A5,c5,cells,top,hk,rfl,hox,HS⟩:=hrel;by_cases hlt:xs.length<ka
  ·have hna:xs.length<3:=by omega
   have HI:Hid (GI wa m (dR F0 5 (.slice A5 xs.length c5)) 0 wa):=hd0 ⟨HS.out.mkr,DJ m wa⟩
   go_upto_region 7 with fail
   refine acu wa m xs.length (dR F0 5 (.slice A5 xs.length c5)) HI (by omega) _ _ (by kernel_rfl) _ _ _ _ _ _ _ _ _ _ _ _ _ _ _ _ _ _ _ _ _ _ _ _ _ _ _ _ _ _ _ _ _ _ _ _ _ _ _ _ _ _ _ _ _ _ _ _ _ _ _ _ _ _ _ _ _ _ _ _ _ _ _ _ _ _ _ _ _ _ _ _ _ _ _ _ _ _ _ _ _ _ _ _ _ _ _ _ _ _ _ _ _ _ _ _ _ _ _ _ _ _ _ _ _ _ _ _ _ _ _ _ _ _ _ _ _ _ _ _ _ _ _ _ _ _ _ _ _ _ _ _ _ _ _ _ _ _ _ _ _ _ _ _ _ _ _ _ _ _ _ _ _ _ _ _ _ _ _ _ _ _ _ _ _ _ _ _ _ _ _ _ _ _ _ _ _ _ _ _ _ _ _ _ _ _ _ _ _ _ _ _ _ _ _ _ _ _ _ _ _ _ _ _ _ _ _ _ _ _ _ _ _ _ _ _ _ _ _ _ _ _ _ _ _ _ _ _ _ _ _ _ _ _ _ _ _ _ _ _ _ _ _ _ _ (hd0 ?_);intro g mn mx wx v39 v40 v41 v42 v43 v44 v45 v46 v47 v48 v49 v50 v51 v52 hg hmn hmx hbx hgi;have HX:=hd0 (HS.out.next ale.ok (by decide) hgi.mkr hgi.mv);have x7:wx.cell? ⟨m,7,none⟩=some (.slice A5 xs.length c5):=HX.out.cell (by omega);have d0:=hbx.cell 0;have d1:=hbx.cell 1;have d2:=hbx.cell 2;have d3:=hbx.cell 3;have zgx:=hbx.lt;have zmx:=HX.out.mkr.lt;have sx:=SX.out;obtain⟨B,d,w9,hrun,x9,y9,z9,h9⟩:=(HX.out.drew ale.ok).more ale.ok (by omega) XR (by decide) (by decide) (n:=xs.length) rfl (by omega) (⟨BU xs.length,mn,0,mx⟩:alG) #[.string ⟨(BU xs.length).toArray⟩,.int .i64 mn,.int .i64 0,.int .i64 mx] rfl (by simp[Value.oneCell']) ⟨rfl,kC hmn,(show I64 0 from⟨by decide,by decide⟩),kC hmx⟩;have Ul:(Builtin.append_ #[28,28] 28 #[.slice A5 xs.length c5,.slice (some ⟨wx.heap.size,0,none⟩) 1 1]).run Tryz.prog (wx.alloc (.cells #[.string ⟨(BU xs.length).toArray⟩,.int .i64 mn,.int .i64 0,.int .i64 mx] qA)).drew= .ok (.slice B (xs.length+1) d) w9:=hrun;have H9:=hd0 h9;have ahS:Hid (∀a∈xs++[(⟨BU xs.length,mn,0,mx⟩:alG)],nameB a.name=true/\N9 a.min'/\N9 a.alI/\N9 a.max'):=hd0 fun a ha=>by
    rw[anz,anu] at ha;rcases ha with ha|rfl
    ·exact hox.out a ha
    exact⟨aeQ ⟨xs.length,hna⟩,hmn,(show N9 0 from⟨by decide,by decide⟩),hmx⟩
   have agA:Hid (MS ale Wf m F0 0 5 qA [] 4 B d (cells++[.string ⟨(BU xs.length).toArray⟩,.int .i64 mn,.int .i64 0,.int .i64 mx]) (xs++[(⟨BU xs.length,mn,0,mx⟩:alG)]) (fun _=>True) hA wx.heap.size (w9.setCell ⟨m,7,none⟩ (.slice B (xs.length+1) d))):=H9;clear h9 H9 hrun hbx hgi hmn hmx;go_wp2_with fail
   go_region
   all_goals
    go_wp2_with fail
    go_roundw
    case rel=>exact⟨xs++[(⟨BU xs.length,mn,0,mx⟩:alG)],B,d,_,_,by(rw[la];show xs.length+1<=ka;omega),by simp,ahS,agA⟩
    case measure=>simp[intOf];omega
  obtain⟨P1,h1,PL,HP1⟩:∃P1 h1,Hid (SG Wf m (dR F0 5 (.slice A5 xs.length c5)) 0 P1 h1 wa)/\Hid (∀w,P1 w->Sl ale 4 w (TR [qA] (m+1) h1 w) A5 xs):=⟨_,_,hd0 (HS.out.sg ale.ok (by omega)),hd0 fun w h=>h.2⟩
  obtain⟨F1,hF1⟩:∃F,dR F0 5 (.slice A5 xs.length c5)=F:=⟨_,rfl⟩
  have aeO:Hid (F1 5= .slice A5 xs.length c5):=by rw[<-hF1];exact hd0 (eF _ _ _)
  have Ik:Hid (F1 0= .int .i64 u):=by rw[<-hF1];exact hd0 ((aV (by decide)).trans HU.out)
  have qP:Hid (∀i,1<=i->i≠5->F1 i= .slice none 0 0):=by rw[<-hF1];exact hd0 fun i hi h5=>(aV h5).trans (HN.out i hi)
  rw[hF1] at PL;have HXS:=hd0 (show xs.length<=2 by omega);clear hF1 HS HN HU
  go_upto_if 66 with fail
  go_cut [7,8,9,10,66] from 67 to 105 (fun _ _ _ _ _ wx=>∃(rg:List Region) (A6:Option Addr) (c6:Nat) (P2:World->Prop) (h2:Nat),((∀r∈rg,(∀t∈r.ak1,N9 t.start/\N9 t.peak/\N9 t.stop)/\r.ak1.length<=2)/\rg.length<=3)/\(∀w,P2 w->P1 w/\Sl akU 1 w (TR [rP,kw] (m+1) h2 w) A6 rg)/\SG Wf m (dR F1 6 (.slice A6 rg.length c6)) 0 P2 h2 wx)
  case first=>
   by_cases h0:0<ka
   ·go_wp2_with fail
    refine(az wa m F1 0 4 PL.out.mkr (by omega) (by omega)).mono ?_;rintro e wb ⟨nr,hnr,rfl,hmb,hvb⟩;have HR0:Hid (MS akU Wf m F1 0 6 rP [kw] 1 none 0 [] [] P1 wb.heap.size wb.heap.size wb):=hd0 ((PL.out.next hmb hvb).ms (qP.out 6 (by omega) (by omega)));generalize wb.heap.size=hB at HR0;clear hmb hvb;go_wp2_with fail
    go_loopw [8] (fun i wr=>∃(rg:List Region) (A6:Option Addr) (c6:Nat) (cells:List Value) (top:Nat),rg.length<=nr/\i= .int .i64 rg.length/\Hid (∀r∈rg,(∀t∈r.ak1,N9 t.start/\N9 t.peak/\N9 t.stop)/\r.ak1.length<=2)/\Hid (MS akU Wf m F1 0 6 rP [kw] 1 A6 c6 cells rg P1 hB top wr)) (fun i _=>nr - (intOf i).toNat)
    case atStart=>exact⟨[],none,0,[],hB,nz _,rfl,hd0 (by simp),HR0⟩
    case round=>
     obtain⟨wd,rfl⟩:∃x,x=wr:=⟨_,rfl⟩
     obtain⟨rg,A6,c6,cells,top,hk2,rfl,hor,HS⟩:=hrel;by_cases hlt2:rg.length<nr
     ·go_wp2_with fail
      obtain⟨we,hwe⟩:∃we,wd.alloc (.cells #[.slice none 0 0] rP)=we:=⟨_,rfl⟩
      have HT0:Hid (TG Wf m F1 P1 hB wd.heap.size A6 c6 cells rg [] none 0 we):=by rw[<-hwe];have h1:=HS.out.below akU.ok ((ant wd.heap.size wd).alloc (af _) (.cells #[.slice none 0 0] rP));exact hd0 ⟨h1.al6 akU.ok HS.out.bnd.2.2.2 (by simp),Bk.new _ _ _,World.ownsRow_nil _ _ _ _,fun x hx=>Nat.ne_of_lt (HS.out.row.lt x hx).2⟩
      rw[hwe];clear hwe HS;go_loopw [10] (fun i wr=>∃(ts:List alv) (At:Option Addr) (ct:Nat),ts.length<=ka/\i= .int .i64 ts.length/\Hid (∀t∈ts,N9 t.start/\N9 t.peak/\N9 t.stop)/\Hid (TG Wf m F1 P1 hB wd.heap.size A6 c6 cells rg ts At ct wr)) (fun i _=>ka - (intOf i).toNat)
      case atStart=>exact⟨[],none,0,nz _,rfl,hd0 (by simp),HT0⟩
      case round=>
       obtain⟨wg,rfl⟩:∃x,x=wr:=⟨_,rfl⟩
       obtain⟨ts,At,ct,hk3,rfl,hot,HT⟩:=hrel;have xr:wg.cell? ⟨wd.heap.size,0,none⟩=some (.slice At ts.length ct):=HT.out.bk.cell 0;have zrb:=HT.out.bk.lt;by_cases hlt3:ts.length<ka
       ·
        have hrm:wd.heap.size≠m:=by have:=HT.out.ms.bnd;omega
        have bQ:True:=trivial;have st:=ST.out;go_wp2_with fail
        go_region_with (first
         |(go_at_call 59;have _t:=bQ;first
          |(refine(az _ m (dR F1 6 (.slice A6 rg.length c6)) 0 5 (by exact(HT.out.drew.alloc _).ms.mkr) (by omega) (by omega)).mono ?_;rintro e w3 ⟨x,hx,rfl,bn,hv3⟩;have H3:=(HT.out.drew.alloc (.cells #[.int .i64 0,.int .i64 64,.int .i64 64,.int .i64 0,.int .i64 32,.int .i64 64,.int .i64 (-64),.int .i64 (-64),.int .i64 0,.int .i64 (-1),.int .i64 0,.int .i64 5,.int .i64 10,.int .i64 32,.int .i64 50] kw)).next bn hv3;have hL:=(Sp.next (HT.out.drew.alloc (.cells #[.int .i64 0,.int .i64 64,.int .i64 64,.int .i64 0,.int .i64 32,.int .i64 64,.int .i64 (-64),.int .i64 (-64),.int .i64 0,.int .i64 (-1),.int .i64 0,.int .i64 5,.int .i64 10,.int .i64 32,.int .i64 50] kw)).ms.mkr hv3).bk (Bk.new wg.drew kw #[.int .i64 0,.int .i64 64,.int .i64 64,.int .i64 0,.int .i64 32,.int .i64 64,.int .i64 (-64),.int .i64 (-64),.int .i64 0,.int .i64 (-1),.int .i64 0,.int .i64 5,.int .i64 10,.int .i64 32,.int .i64 50]) (by decide);obtain⟨ta,tb,tc,ea,eb,ec,na,nb,nc⟩:=Rz x hx;have qa:w3.cell? ⟨wg.heap.size,x*3,none⟩=some (.int .i64 ta):=(hL.cell _).trans ea;have qb:w3.cell? ⟨wg.heap.size,x*3+1,none⟩=some (.int .i64 tb):=(hL.cell _).trans eb;have qc:w3.cell? ⟨wg.heap.size,x*3+2,none⟩=some (.int .i64 tc):=(hL.cell _).trans ec;have QI:w3.cell? ⟨wd.heap.size,0,none⟩=some (.slice At ts.length ct):=H3.bk.cell 0;have Gv:=H3.bk.lt;obtain⟨B,d,w9,hrun,x9,y9,z9,h9⟩:=H3.more (by omega) ta tb tc;have H9:=hd0 h9;have AL:=hd0 (And.intro na (And.intro nb nc));clear _t bQ hL H3 h9 bn hv3 ea eb ec na nb nc)
          |(refine(az _ m (dR F1 6 (.slice A6 rg.length c6)) 0 5 (by exact HT.out.drew.ms.mkr) (by omega) (by omega)).mono ?_;rintro e w3 ⟨x,hx,rfl,bn,hv3⟩;have H3:=(HT.out.drew.next bn hv3).alloc (.cells #[.int .i64 0,.int .i64 64,.int .i64 64,.int .i64 0,.int .i64 32,.int .i64 64,.int .i64 (-64),.int .i64 (-64),.int .i64 0,.int .i64 (-1),.int .i64 0,.int .i64 5,.int .i64 10,.int .i64 32,.int .i64 50] kw);have h3:=HT.out.drew.next bn hv3;obtain⟨ta,tb,tc,ea,eb,ec,na,nb,nc⟩:=Rz x hx;have hL:=Bk.new w3 kw #[.int .i64 0,.int .i64 64,.int .i64 64,.int .i64 0,.int .i64 32,.int .i64 64,.int .i64 (-64),.int .i64 (-64),.int .i64 0,.int .i64 (-1),.int .i64 0,.int .i64 5,.int .i64 10,.int .i64 32,.int .i64 50];have qa:(w3.alloc (.cells #[.int .i64 0,.int .i64 64,.int .i64 64,.int .i64 0,.int .i64 32,.int .i64 64,.int .i64 (-64),.int .i64 (-64),.int .i64 0,.int .i64 (-1),.int .i64 0,.int .i64 5,.int .i64 10,.int .i64 32,.int .i64 50] kw)).cell? ⟨w3.heap.size,x*3,none⟩=some (.int .i64 ta):=(hL.cell _).trans ea;have qb:(w3.alloc (.cells #[.int .i64 0,.int .i64 64,.int .i64 64,.int .i64 0,.int .i64 32,.int .i64 64,.int .i64 (-64),.int .i64 (-64),.int .i64 0,.int .i64 (-1),.int .i64 0,.int .i64 5,.int .i64 10,.int .i64 32,.int .i64 50] kw)).cell? ⟨w3.heap.size,x*3+1,none⟩=some (.int .i64 tb):=(hL.cell _).trans eb;have qc:(w3.alloc (.cells #[.int .i64 0,.int .i64 64,.int .i64 64,.int .i64 0,.int .i64 32,.int .i64 64,.int .i64 (-64),.int .i64 (-64),.int .i64 0,.int .i64 (-1),.int .i64 0,.int .i64 5,.int .i64 10,.int .i64 32,.int .i64 50] kw)).cell? ⟨w3.heap.size,x*3+2,none⟩=some (.int .i64 tc):=(hL.cell _).trans ec;have QI:w3.cell? ⟨wd.heap.size,0,none⟩=some (.slice At ts.length ct):=h3.bk.cell 0;have Gv:=h3.bk.lt;obtain⟨B,d,w9,hrun,x9,y9,z9,h9⟩:=H3.more (by omega) ta tb tc;rw[World.size_alloc] at hrun;have H9:=hd0 h9;have AL:=hd0 (And.intro na (And.intro nb nc));clear _t bQ hL H3 h3 h9 bn hv3 ea eb ec na nb nc)))
        all_goals
         have agq:Hid (∀t∈ts++[(⟨ta,tb,tc⟩:alv)],N9 t.start/\N9 t.peak/\N9 t.stop):=hd0 fun t ht=>by
          rw[anz,anu] at ht;rcases ht with ht|rfl
          ·exact hot.out t ht
          exact AL.out
         clear hrun x9 y9 z9 QI Gv qa qb qc;go_wp2_with fail
         go_roundw
         case rel=>exact⟨ts++[(⟨ta,tb,tc⟩:alv)],B,d,by(rw[la];show ts.length+1<=ka;omega),by simp,agq,H9⟩
         case measure=>simp[intOf];omega
       have hbn:=HT.out.ms.bnd;have x8:wg.cell? ⟨m,8,none⟩=some (.slice A6 rg.length c6):=HT.out.ms.cell (by omega);have zm:=HT.out.ms.mkr.lt;have srg:=SR.out;have lm:akU wg.drew (TR [kw] hB wg.drew.heap.size wg.drew) [.slice At ts.length ct] ⟨ts⟩:=⟨At,ct,rfl,yH (lo:=hB) HT.out.drew.row (Zd _ _ ts fun t ht=>by have h:=hot.out t ht;exact⟨kC h.1,kC h.2.1,kC h.2.2⟩) (by simp) (by omega) (by omega)⟩
       obtain⟨B,d,w9,hrun,x9,y9,z9,h9⟩:=HT.out.drew.ms.more akU.ok (by omega) NP (by decide) (by decide) (n:=rg.length) rfl (by omega) ⟨ts⟩ #[.slice At ts.length ct] rfl (by simp[Value.oneCell']) lm;have Ul:(Builtin.append_ #[29,29] 29 #[.slice A6 rg.length c6,.slice (some ⟨wg.heap.size,0,none⟩) 1 1]).run Tryz.prog (wg.alloc (.cells #[.slice At ts.length ct] rP)).drew= .ok (.slice B (rg.length+1) d) w9:=hrun;have H9:Hid (MS akU Wf m F1 0 6 rP [kw] 1 B d (cells++[.slice At ts.length ct]) (rg++[⟨ts⟩]) P1 hB wg.heap.size (w9.setCell ⟨m,8,none⟩ (.slice B (rg.length+1) d))):=hd0 h9;have hor2:Hid (∀r∈rg++[(⟨ts⟩:Region)],(∀t∈r.ak1,N9 t.start/\N9 t.peak/\N9 t.stop)/\r.ak1.length<=2):=hd0 fun r hr=>by
        rw[anz,anu] at hr;rcases hr with hr|rfl
        ·exact hor.out r hr
        exact⟨hot.out,show ts.length<=2 by omega⟩
       clear h9 hrun lm hbn;go_wp2_with fail
       go_region
       all_goals
        go_wp2_with fail
        go_roundw
        case rel=>exact⟨rg++[(⟨ts⟩:Region)],B,d,_,_,by(rw[la];show rg.length+1<=nr;omega),by simp,hor2,H9⟩
        case measure=>simp[intOf];omega
     go_wp2_with fail
     go_meet
     exact⟨rg,A6,c6,_,_,⟨hor.out,by omega⟩,fun w h=>h,HS.out.sg akU.ok (by omega)⟩
   have akv:ka=0:=by omega
   go_wp2_with fail
   go_meet
   refine⟨[],none,0,P1,h1,by simp,fun w h=>⟨h,Sl.nil⟩,?_⟩;have e6:dR F1 6 (.slice none ([]:List Region).length 0)=F1:=Ym (qP.out 6 (by omega) (by omega));rw[e6];exact PL.out
  case rest=>
  obtain⟨rg,A6,c6,P2,h2,hrg,hP2,hsg⟩:=hcut;obtain⟨wb,rfl⟩:∃x,x=wc:=⟨_,rfl⟩
  obtain⟨F2,hF2⟩:∃F,dR F1 6 (.slice A6 rg.length c6)=F:=⟨_,rfl⟩
  have aew:Hid (F2 6= .slice A6 rg.length c6):=by rw[<-hF2];exact hd0 (eF _ _ _)
  have adV:Hid (F2 5= .slice A5 xs.length c5):=by rw[<-hF2];exact hd0 ((aV (by decide)).trans aeO.out)
  have aeJ:Hid (F2 0= .int .i64 u):=by rw[<-hF2];exact hd0 ((aV (by decide)).trans Ik.out)
  have rM:Hid (∀i,1<=i->i≠5->i≠6->F2 i= .slice none 0 0):=by rw[<-hF2];exact hd0 fun i hi h5 h6=>(aV h6).trans (qP.out i hi h5)
  rw[hF2] at hsg;have ZB:=hd0 hsg;have HRG:=hd0 hrg;have HP2:=hd0 hP2;have hrg3:=hrg.2;clear hF2 hsg hrg hP2 qP Ik aeO PL;go_wp2_with fail
  refine(az wb m F2 0 3 ZB.out.mkr (by omega) (by omega)).mono ?_;rintro e wd ⟨kf,hkf,rfl,hmd,hvd⟩;have XW:Hid (MS ak6 Wf m F2 0 7 Gt [pz] 1 none 0 [] [] P2 wd.heap.size wd.heap.size wd):=hd0 ((ZB.out.next hmd hvd).ms (rM.out 7 (by omega) (by omega) (by omega)));generalize wd.heap.size=hC at XW;clear hmd hvd ZB;go_wp2_with fail
  go_loopw [11] (fun i wr=>∃(fn:List (List Ins)) (A7:Option Addr) (c7:Nat) (cells:List Value) (top:Nat) (lp:Int),fn.length<=kf/\i= .int .i64 fn.length/\Hid (∀p∈fn,mG p/\p.length<=60)/\Hid (MS ak6 Wf m F2 lp 7 Gt [pz] 1 A7 c7 cells fn P2 hC top wr)) (fun i _=>kf - (intOf i).toNat)
  case atStart=>exact⟨[],none,0,[],hC,0,nz _,rfl,hd0 (by simp),XW⟩
  case round=>
   obtain⟨we,rfl⟩:∃x,x=wr:=⟨_,rfl⟩
   obtain⟨fn,A7,c7,cells,top,lp,hkn,rfl,hof,HS⟩:=hrel;by_cases hlt:fn.length<kf
   ·
    have c11:we.cell? ⟨m,11,none⟩=some (.int .i64 lp):=HS.out.mkr.cells.2;have f11:=HS.out.mkr.frozen 11;have zme:=HS.out.mkr.lt;have si:=SI.out
    go_upto_region 25 with fail
    have Am:Hid (MS ak6 Wf m F2 0 7 Gt [pz] 1 A7 c7 cells fn P2 hC top (we.setCell ⟨m,11,none⟩ (.int .i64 0))):=hd0 (HS.out.next ak6.ok (by decide) (HS.out.mkr.loops 0) (HS.out.mkr.mvp 11 _));obtain⟨w1,hw1⟩:∃w1,we.setCell ⟨m,11,none⟩ (.int .i64 0)=w1:=⟨_,rfl⟩
    rw[hw1] at Am ⊢;clear hw1 c11 f11 zme HS si;have x9m:w1.cell? ⟨m,9,none⟩=some (.slice A7 fn.length c7):=Am.out.cell (by omega);have zm1:=Am.out.mkr.lt;have hbn:=Am.out.bnd;have sc:=SC.out;have bQ:True:=trivial
    go_region_with (go_at_call 60;have _t:=bQ;refine(Sr _ m (dR F2 7 (.slice A7 fn.length c7)) 0 6 fn.length 4 (by exact Am.out.mkr) (by omega) (by omega) (by omega) (by omega) (by omega)).mono ?_;rintro e w3 ⟨pc,Ap,cp,lp2,hp,hpl,hlp,rfl,hcap,sp,bn,hv3⟩;have H3:=(Am.out.drew ak6.ok).next ak6.ok (by decide) bn hv3;have x93:w3.cell? ⟨m,9,none⟩=some (.slice A7 fn.length c7):=H3.cell (by omega);have Wh:=H3.mkr.lt;obtain⟨B,d,w9,hrun,x9,y9,z9,h9⟩:=H3.more ak6.ok (by omega) VH (by decide) (by decide) (n:=fn.length) rfl (by omega) pc #[.slice Ap pc.length cp] rfl (by simp[Value.oneCell']) ⟨Ap,cp,rfl,sp.mono akZ.ok (TR.amb (by show hC<=w1.heap.size;omega))⟩;have H9:=hd0 h9;have HPC:=hd0 (And.intro hp hpl);clear _t bQ H3 h9 bn hv3 sp hp)
    all_goals
     have ahC:Hid (∀p∈fn++[pc],mG p/\p.length<=60):=hd0 fun p hp=>by
      rw[anz,anu] at hp;rcases hp with hp|rfl
      ·exact hof.out p hp
      exact⟨HPC.out.1,by have:=HPC.out.2;omega⟩
     clear hrun x9 y9 z9 x93 Wh sc;go_wp2_with fail
     go_roundw
     case rel=>exact⟨fn++[pc],B,d,_,_,lp2,by(rw[la];show fn.length+1<=kf;omega),by simp,ahC,H9⟩
     case measure=>simp[intOf];omega
   obtain⟨P3,h3,Ub,HP3⟩:∃P3 h3,Hid (SG Wf m (dR F2 7 (.slice A7 fn.length c7)) lp P3 h3 we)/\Hid (∀w,P3 w->P2 w/\Sl ak6 1 w (TR [Gt,pz] (m+1) h3 w) A7 fn):=⟨_,_,hd0 (HS.out.sg ak6.ok (by omega)),hd0 fun w h=>h⟩
   obtain⟨F3,hF3⟩:∃F,dR F2 7 (.slice A7 fn.length c7)=F:=⟨_,rfl⟩
   have ad9:Hid (F3 7= .slice A7 fn.length c7):=by rw[<-hF3];exact hd0 (eF _ _ _)
   have ade:Hid (F3 6= .slice A6 rg.length c6):=by rw[<-hF3];exact hd0 ((aV (by decide)).trans aew.out)
   have aeN:Hid (F3 5= .slice A5 xs.length c5):=by rw[<-hF3];exact hd0 ((aV (by decide)).trans adV.out)
   have adt:Hid (F3 0= .int .i64 u):=by rw[<-hF3];exact hd0 ((aV (by decide)).trans aeJ.out)
   have AL:Hid (∀i,1<=i->i≠5->i≠6->i≠7->F3 i= .slice none 0 0):=by rw[<-hF3];exact hd0 fun i hi h5 h6 h7=>(aV h7).trans (rM.out i hi h5 h6)
   rw[hF3] at Ub;have hfn2:fn.length<=2:=by omega
   clear hF3 rM aeJ adV aew HS;go_wp2_with fail
   refine(az we m F3 lp 4 Ub.out.mkr (by omega) (by omega)).mono ?_;rintro e wf ⟨kc,hkc,rfl,hmf,Xx⟩;have HV0:Hid (MS akL Wf m F3 lp 8 aQ [] 1 none 0 [] [] P3 wf.heap.size wf.heap.size wf):=hd0 ((Ub.out.next hmf Xx).ms (AL.out 8 (by omega) (by omega) (by omega) (by omega)));generalize wf.heap.size=hV at HV0;clear hmf Xx Ub;go_wp2_with fail
   go_loopw [12] (fun i wr=>∃(cv:List Int) (A8:Option Addr) (c8:Nat) (cells:List Value) (top:Nat),cv.length<=kc/\i= .int .i64 cv.length/\Hid (∀n∈cv,N9 n)/\Hid (MS akL Wf m F3 lp 8 aQ [] 1 A8 c8 cells cv P3 hV top wr)) (fun i _=>kc - (intOf i).toNat)
   case atStart=>exact⟨[],none,0,[],hV,nz _,rfl,hd0 (by simp),HV0⟩
   case round=>
    obtain⟨wg,rfl⟩:∃x,x=wr:=⟨_,rfl⟩
    obtain⟨cv,A8,c8,ah9,ake,hkv,rfl,hov,HS⟩:=hrel;by_cases hlt2:cv.length<kc
    ·
     have x10:wg.cell? ⟨m,10,none⟩=some (.slice A8 cv.length c8):=HS.out.cell (by omega);have zmg:=HS.out.mkr.lt;have sn:=SN.out;have bQ:True:=trivial;go_wp2_with fail
     go_region_with (go_at_call 59;have _t:=bQ;refine(az _ m (dR F3 8 (.slice A8 cv.length c8)) lp 500 (by exact HS.out.mkr) (by omega) (by omega)).mono ?_;rintro e w3 ⟨x,hx,rfl,bn,hv3⟩;have H3:=(HS.out.drew akL.ok).next akL.ok (by decide) bn hv3;have x103:w3.cell? ⟨m,10,none⟩=some (.slice A8 cv.length c8):=H3.cell (by omega);have Wh:=H3.mkr.lt;have hw1:IntKind.i64.wrap ((x:Int) - 100)=(x:Int) - 100:=wrap_in _ (by omega) (by omega);obtain⟨B,d,w9,hrun,x9,y9,z9,h9⟩:=H3.more akL.ok (by omega) iL (by decide) (by decide) (n:=cv.length) rfl (by omega) (IntKind.i64.wrap ((x:Int) - 100)) #[.int .i64 (IntKind.i64.wrap ((x:Int) - 100))] rfl (by simp[Value.oneCell']) ⟨rfl,by rw[hw1];exact⟨by omega,by omega⟩⟩;have H9:=hd0 h9;have HW1:=hd0 hw1;clear _t bQ hw1 H3 h9 bn hv3)
     all_goals
      have aga:Hid (∀n∈cv++[IntKind.i64.wrap ((x:Int) - 100)],N9 n):=hd0 fun z hz=>by
       rw[anz,anu] at hz;rcases hz with hz|rfl
       ·exact hov.out z hz
       rw[HW1.out];unfold N9;omega
      clear hrun x9 y9 z9 x103 Wh sn;go_wp2_with fail
      go_roundw
      case rel=>exact⟨cv++[IntKind.i64.wrap ((x:Int) - 100)],B,d,_,_,by(rw[la];show cv.length+1<=kc;omega),by simp,aga,H9⟩
      case measure=>simp[intOf];omega
    obtain⟨P4,h4,TF,HP4⟩:∃P4 h4,Hid (SG Wf m (dR F3 8 (.slice A8 cv.length c8)) lp P4 h4 wg)/\Hid (∀w,P4 w->P3 w/\Sl akL 1 w (TR [aQ] (m+1) h4 w) A8 cv):=⟨_,_,hd0 (HS.out.sg akL.ok (by omega)),hd0 fun w h=>h⟩
    obtain⟨F4,JY⟩:∃F,dR F3 8 (.slice A8 cv.length c8)=F:=⟨_,rfl⟩
    have ae6:Hid (F4 8= .slice A8 cv.length c8):=by rw[<-JY];exact hd0 (eF _ _ _)
    have Zk:Hid (F4 7= .slice A7 fn.length c7):=by rw[<-JY];exact hd0 ((aV (by decide)).trans ad9.out)
    have ZP:Hid (F4 6= .slice A6 rg.length c6):=by rw[<-JY];exact hd0 ((aV (by decide)).trans ade.out)
    have aeB:Hid (F4 5= .slice A5 xs.length c5):=by rw[<-JY];exact hd0 ((aV (by decide)).trans aeN.out)
    have adW:Hid (F4 0= .int .i64 u):=by rw[<-JY];exact hd0 ((aV (by decide)).trans adt.out)
    have Po:Hid (∀i,1<=i->i<5->F4 i= .slice none 0 0):=by rw[<-JY];exact hd0 fun i hi h5=>(aV (by omega)).trans (AL.out i hi (by omega) (by omega) (by omega))
    rw[JY] at TF;have ahw:cv.length<=3:=by omega
    clear JY AL adt aeN ade ad9 HS;go_wp2_with fail
    refine(az wg m F4 lp 9 TF.out.mkr (by omega) (by omega)).mono ?_;rintro e wh ⟨kg0,hkg,rfl,hmh,hvh⟩;have EG:Hid (MS akQ Wf m F4 lp 1 jB Hl 9 none 0 [] [] P4 wh.heap.size wh.heap.size wh):=hd0 ((TF.out.next hmh hvh).ms (Po.out 1 (by omega) (by omega)));generalize wh.heap.size=hG at EG;clear hmh hvh TF;go_wp2_with fail
    go_loopw [13] (fun i wr=>∃(gs:List akN) (A1:Option Addr) (c1:Nat) (cells:List Value) (top:Nat) (lp:Int),gs.length<=2+kg0/\i= .int .i64 gs.length/\Hid (∀i g,gs[i]? =some g->alW i g)/\Hid (MS akQ Wf m F4 lp 1 jB Hl 9 A1 c1 cells gs P4 hG top wr)) (fun i _=>2+kg0 - (intOf i).toNat)
    case atStart=>exact⟨[],none,0,[],hG,lp,nz _,rfl,hd0 (by simp),EG⟩
    case round=>
     obtain⟨wi,rfl⟩:∃x,x=wr:=⟨_,rfl⟩
     obtain⟨gs,A1,c1,adM,ako,tH,akm,rfl,hog,HS⟩:=hrel;by_cases hlt3:gs.length<2+kg0
     ·
      have hbn:=HS.out.bnd;go_wp2_with fail
      refine(X5 wi m (dR F4 1 (.slice A1 gs.length c1)) tH gs.length gs.length A1 c1 hG adM A6 rg.length c6 A7 fn.length c7 HS.out.mkr (eF _ _ _) ((aV (by decide)).trans ZP.out) ((aV (by decide)).trans Zk.out) HS.out.row (by omega) (by omega) (by omega) (by omega) (by omega) (by omega)).mono ?_;rintro e w3 ⟨g,nc,B,d,lp2,hgo,rfl,bn,ho3,hn3,hg3,hv3⟩;rw[Io] at bn;have H3:=HS.out.akY bn ho3 hn3 hg3 hv3;have H9:=hd0 H3;have ah2:Hid (∀i g',(gs++[g])[i]? =some g'->alW i g'):=hd0 fun i g' hi=>by
       by_cases hil:i<gs.length
       ·rw[anS hil] at hi;exact hog.out i g' hi
       have hig:i=gs.length:=by have:=(anv.1 hi).1;simp at this;omega
       subst hig;rw[anR (af _),Nat.sub_self] at hi;simp only[anF,anV] at hi;subst hi;exact hgo
      clear H3 bn ho3 hg3 hv3;go_wp2_with fail
      go_roundw
      case rel=>exact⟨gs++[g],B,d,_,_,lp2,by(rw[la];show gs.length+1<=2+kg0;omega),by simp,ah2,H9⟩
      case measure=>simp[intOf];omega
     obtain⟨P5,h5,Pi,vw⟩:∃P5 h5,Hid (SG Wf m (dR F4 1 (.slice A1 gs.length c1)) tH P5 h5 wi)/\Hid (∀w,P5 w->P4 w/\Sl akQ 9 w (TR (jB::Hl) (m+1) h5 w) A1 gs):=⟨_,_,hd0 (HS.out.sg akQ.ok (by omega)),hd0 fun w h=>h⟩
     obtain⟨F5,mJ⟩:∃F,dR F4 1 (.slice A1 gs.length c1)=F:=⟨_,rfl⟩
     have I7:Hid (F5 1= .slice A1 gs.length c1):=by rw[<-mJ];exact hd0 (eF _ _ _)
     have I8:Hid (F5 8= .slice A8 cv.length c8/\F5 7= .slice A7 fn.length c7/\F5 6= .slice A6 rg.length c6/\F5 5= .slice A5 xs.length c5/\F5 0= .int .i64 u):=by rw[<-mJ];exact hd0 ⟨(aV (by decide)).trans ae6.out,(aV (by decide)).trans Zk.out,(aV (by decide)).trans ZP.out,(aV (by decide)).trans aeB.out,(aV (by decide)).trans adW.out⟩
     have HN5:Hid (∀i,2<=i->i<5->F5 i= .slice none 0 0):=by rw[<-mJ];exact hd0 fun i hi h5=>(aV (by omega)).trans (Po.out i (by omega) h5)
     rw[mJ] at Pi;have rE:gs.length<=10:=by omega
     have hg2:2<=gs.length:=by omega
     have aiZ:=Pi.out.mkr.lt;clear mJ Po adW aeB ZP Zk ae6 HS;go_wp2_with fail
     refine(YZ wi).mono ?_;rintro e wj ⟨rfl,hwj⟩;have hbj:Bk wj wi.heap.size aQ #[.int .i64 97,.int .i64 98,.int .i64 99,.int .i64 102,.int .i64 105,.int .i64 108,.int .i64 57345,.int .i64 57346,.int .i64 57601,.int .i64 57602,.int .i64 57603,.int .i64 57857,.int .i64 57861,.int .i64 58113,.int .i64 58114,.int .i64 58369]:=by rw[hwj];exact Bk.new _ _ _
     have hzj:wj.heap.size=wi.heap.size+1:=by rw[hwj];simp
     have hsj:SG Wf m F5 tH P5 h5 wj:=by rw[hwj];exact Pi.out.below ((ant _ _).alloc (af _) _)
     have hh5:=Pi.out.fz.top;obtain⟨rb,hrb⟩:∃rb,wi.heap.size=rb:=⟨_,rfl⟩
     rw[hrb] at hbj hzj hh5 ⊢;have YC:=hsj.more (Q:=fun w=>Bk w rb aQ #[.int .i64 97,.int .i64 98,.int .i64 99,.int .i64 102,.int .i64 105,.int .i64 108,.int .i64 57345,.int .i64 57346,.int .i64 57601,.int .i64 57602,.int .i64 57603,.int .i64 57857,.int .i64 57861,.int .i64 58113,.int .i64 58114,.int .i64 58369]) (hi2:=wj.heap.size) (by omega) (af _) hbj (fun w w' hq he=>(he rb (by omega) (by omega)).trans hq);have XW:Hid (MS alm Wf m F5 tH 2 Tu [] 2 none 0 [] [] (fun w=>P5 w/\Bk w rb aQ #[.int .i64 97,.int .i64 98,.int .i64 99,.int .i64 102,.int .i64 105,.int .i64 108,.int .i64 57345,.int .i64 57346,.int .i64 57601,.int .i64 57602,.int .i64 57603,.int .i64 57857,.int .i64 57861,.int .i64 58113,.int .i64 58114,.int .i64 58369]) wj.heap.size wj.heap.size wj):=hd0 (YC.ms (HN5.out 2 (by omega) (by omega)));generalize wj.heap.size=hJ at XW;clear hbj hsj YC hwj Pi;go_wp2_with fail
     go_loopw [15] (fun i wr=>∃(k:Nat) (ch:List Chr) (A2:Option Addr) (c2:Nat) (cells:List Value) (top:Nat),k<=16/\i= .int .i64 k/\ch.length<=k/\Hid (∀c∈ch,N9 c.rune/\In gs.length c.akY)/\Hid (MS alm Wf m F5 tH 2 Tu [] 2 A2 c2 cells ch (fun w=>P5 w/\Bk w rb aQ #[.int .i64 97,.int .i64 98,.int .i64 99,.int .i64 102,.int .i64 105,.int .i64 108,.int .i64 57345,.int .i64 57346,.int .i64 57601,.int .i64 57602,.int .i64 57603,.int .i64 57857,.int .i64 57861,.int .i64 58113,.int .i64 58114,.int .i64 58369]) hJ top wr)) (fun i _=>16 - (intOf i).toNat)
     case atStart=>exact⟨0,[],none,0,[],hJ,nz _,rfl,nz _,hd0 (by simp),XW⟩
     case round=>
      obtain⟨wk,rfl⟩:∃x,x=wr:=⟨_,rfl⟩
      obtain⟨k,ch,A2,c2,cells2,tY,aiY,rfl,hch,hoc,HS⟩:=hrel;by_cases hlt4:k<16
      ·
       go_wp2_with fail
       refine(az wk m (dR F5 2 (.slice A2 ch.length c2)) tH 4 HS.out.mkr (by omega) (by omega)).mono ?_;rintro e wl ⟨y,hy,rfl,hml,hvl⟩;have HL:=hd0 (HS.out.next alm.ok (by decide) hml hvl);clear hml hvl HS;by_cases hy0:0<y
       ·have ey:decide ((0:Int)<y)=true:=by simp;omega
        obtain⟨ru,eru,hru⟩:=abB k hlt4;have x4:wl.cell? ⟨m,4,none⟩=some (.slice A2 ch.length c2):=HL.out.cell (by omega);have x3:wl.drew.cell? ⟨m,3,none⟩=some (.slice A1 gs.length c1):=HL.out.mkr.at' 1 (by omega) ((aV (by decide)).trans I7.out);have xr:wl.drew.cell? ⟨rb,k,none⟩=some (.int .i64 ru):=(HL.out.fz.now.2.cell k).trans eru;have zml:=HL.out.mkr.lt;have zrl:=HL.out.fz.now.2.lt;have sh:=SH.out;have bQ:True:=trivial;go_wp2_with fail
        rw[show Op.load 25 (Operand.tmp 176)=aeR from rfl]
        go_region_held3 (fun w'=>w'.cell? ⟨m,3,none⟩=some (.slice A1 gs.length c1)/\w'.cell? ⟨rb,k,none⟩=some (.int .i64 ru))
         (first
          |with_reducible exact⟨x3,xr⟩
          |with_reducible exact⟨wI,QI⟩
          |with_reducible exact⟨alc _ wI,alc _ QI⟩
          |with_reducible exact⟨x39,xr9⟩
          |with_reducible exact⟨x3s,xrs⟩
          |go_keep)
         (first
          |(go_at_call 59;have _t:=bQ;refine(az _ m (dR F5 2 (.slice A2 ch.length c2)) tH gs.length (by exact HL.out.mkr) (by omega) (by omega)).mono ?_;rintro e w3 ⟨x,hx,rfl,bn,hv3⟩;have H3:=(HL.out.drew alm.ok).next alm.ok (by decide) bn hv3;have x43:w3.cell? ⟨m,4,none⟩=some (.slice A2 ch.length c2):=H3.cell (by omega);have wI:w3.cell? ⟨m,3,none⟩=some (.slice A1 gs.length c1):=H3.mkr.at' 1 (by omega) ((aV (by decide)).trans I7.out);have QI:w3.cell? ⟨rb,k,none⟩=some (.int .i64 ru):=(H3.fz.now.2.cell k).trans eru;have Wh:=H3.mkr.lt;obtain⟨B,d,w9,hrun,x9,y9,z9,s9,h9⟩:=H3.amO alm.ok (by omega) Xi (by decide) (by decide) (n:=ch.length) rfl (by omega) ⟨ru,(x:Int)⟩ #[.int .i64 ru,.int .i64 x] rfl (by simp[Value.oneCell']) ⟨rfl,kC hru,(show I64 (x:Int) from⟨by omega,by omega⟩)⟩;have x3s:(w9.setCell ⟨m,4,none⟩ (.slice B (ch.length+1) d)).cell? ⟨m,3,none⟩=some (.slice A1 gs.length c1):=h9.mkr.at' 1 (by omega) ((aV (by decide)).trans I7.out);have xrs:(w9.setCell ⟨m,4,none⟩ (.slice B (ch.length+1) d)).cell? ⟨rb,k,none⟩=some (.int .i64 ru):=(h9.fz.now.2.cell k).trans eru;have x39:w9.cell? ⟨m,3,none⟩=some (.slice A1 gs.length c1):=(s9.mk H3.mkr (by decide)).at' 1 (by omega) ((aV (by decide)).trans I7.out);have xr9:w9.cell? ⟨rb,k,none⟩=some (.int .i64 ru):=((s9.bk H3.fz.now.2 (by decide)).cell k).trans eru;have H9:=hd0 h9;clear _t bQ H3 h9 bn hv3 s9))
        all_goals
         have agy:Hid (∀c∈ch++[(⟨ru,(x:Int)⟩:Chr)],N9 c.rune/\In gs.length c.akY):=hd0 fun c hc=>by
          rw[anz,anu] at hc;rcases hc with hc|rfl
          ·exact hoc.out c hc
          exact⟨hru,show(0:Int)<=x by omega,show(x:Int)<gs.length by omega⟩
         clear hrun x9 y9 z9 x43 wI QI x3s xrs x39 xr9 Wh sh x3 xr x4;go_wp2_with fail
         go_roundw
         case rel=>exact⟨k+1,ch++[(⟨ru,(x:Int)⟩:Chr)],B,d,_,_,by omega,by simp,by(rw[la];show ch.length+1<=k+1;omega),agy,H9⟩
         case measure=>simp[intOf];omega
       have ey:decide ((0:Int)<y)=false:=by simp;omega
       go_wp2_with fail
       go_roundw
       case rel=>exact⟨k+1,ch,A2,c2,cells2,tY,by omega,by simp,by omega,hoc,HL⟩
       case measure=>simp[intOf];omega
      have hk2:ch.length<=16:=by omega
      obtain⟨P6,h6,yU,HP6⟩:∃P6 h6,Hid (SG Wf m (dR F5 2 (.slice A2 ch.length c2)) tH P6 h6 wk)/\Hid (∀w,P6 w->P5 w/\Sl alm 2 w (TR [Tu] (m+1) h6 w) A2 ch):=⟨_,_,hd0 (HS.out.sg alm.ok (by omega)),hd0 fun w h=>⟨h.1.1,h.2⟩⟩
      obtain⟨F6,Yn⟩:∃F,dR F5 2 (.slice A2 ch.length c2)=F:=⟨_,rfl⟩
      have aao:Hid (F6 1= .slice A1 gs.length c1):=by rw[<-Yn];exact hd0 ((aV (by decide)).trans I7.out)
      have FQ:Hid (F6 2= .slice A2 ch.length c2/\F6 8= .slice A8 cv.length c8/\F6 7= .slice A7 fn.length c7/\F6 6= .slice A6 rg.length c6/\F6 5= .slice A5 xs.length c5/\F6 0= .int .i64 u):=by rw[<-Yn];exact hd0 ⟨eF _ _ _,(aV (by decide)).trans I8.out.1,(aV (by decide)).trans I8.out.2.1,(aV (by decide)).trans I8.out.2.2.1,(aV (by decide)).trans I8.out.2.2.2.1,(aV (by decide)).trans I8.out.2.2.2.2⟩
      have HN6:Hid (F6 3= .slice none 0 0/\F6 4= .slice none 0 0):=by rw[<-Yn];exact hd0 ⟨(aV (by decide)).trans (HN5.out 3 (by omega) (by omega)),(aV (by decide)).trans (HN5.out 4 (by omega) (by omega))⟩
      rw[Yn] at yU;clear Yn HN5 I7 I8 HS;go_wp2_with fail
      refine(Vm wk m F6 tH gs.length A1 c1 yU.out.mkr aao.out HN6.out.1 (by omega) (by omega)).mono ?_;rintro e wl ⟨ls,A3,c3,hls,hl6,rfl,hml,hsl,hvl⟩;have aeu:SG Wf m (dR F6 3 (.slice A3 ls.length c3)) tH P6 h6 wl:=⟨hml,yU.out.fz.next (by omega) hvl,wO yU.out.low yU.out.bnd.1 hvl,yU.out.bnd⟩
      have hzl:=hvl.size;have hh6:=yU.out.fz.top;have hmk:=yU.out.mkr.lt;have hsl2:Sl akS 3 wl (TR (nM::Ky) (m+1) wl.heap.size wl) A3 ls:=hsl.mono akS.ok (TR.sub (fun _ h=>h) (by omega) (af _));obtain⟨P7,h7,O1,HP7⟩:∃P7 h7,Hid (SG Wf m (dR F6 3 (.slice A3 ls.length c3)) tH P7 h7 wl)/\Hid (∀w,P7 w->P6 w/\Sl akS 3 w (TR (nM::Ky) (m+1) h7 w) A3 ls):=⟨_,_,hd0 (aeu.more (Q:=fun w=>Sl akS 3 w (TR (nM::Ky) (m+1) wl.heap.size w) A3 ls) (by omega) (af _) hsl2 (fun w w' hq he=>hq.moved akS.ok (TR.eqb he))),hd0 fun w h=>h⟩
      obtain⟨F7,nS⟩:∃F,dR F6 3 (.slice A3 ls.length c3)=F:=⟨_,rfl⟩
      have Ae:Hid (F7 3= .slice A3 ls.length c3/\F7 1= .slice A1 gs.length c1/\F7 2= .slice A2 ch.length c2/\F7 8= .slice A8 cv.length c8/\F7 7= .slice A7 fn.length c7/\F7 6= .slice A6 rg.length c6/\F7 5= .slice A5 xs.length c5/\F7 0= .int .i64 u):=by rw[<-nS];exact hd0 ⟨eF _ _ _,(aV (by decide)).trans aao.out,(aV (by decide)).trans FQ.out.1,(aV (by decide)).trans FQ.out.2.1,(aV (by decide)).trans FQ.out.2.2.1,(aV (by decide)).trans FQ.out.2.2.2.1,(aV (by decide)).trans FQ.out.2.2.2.2.1,(aV (by decide)).trans FQ.out.2.2.2.2.2⟩
      have acT:F7 4= .slice none 0 0:=by rw[<-nS];exact(aV (by decide)).trans HN6.out.2
      rw[nS] at O1;have HLS:=hd0 hls;clear nS HN6 aao FQ yU hml hsl hsl2 aeu hvl hls;go_wp2_with fail
      refine(VQ wl).mono ?_;rintro e wn ⟨rfl,hwn⟩;have hbn:Bk wn wl.heap.size 9 yY:=by rw[hwn];exact Bk.new _ _ _
      have hzn:wn.heap.size=wl.heap.size+1:=by rw[hwn];simp
      have hsn:SG Wf m F7 tH P7 h7 wn:=by rw[hwn];exact O1.out.below ((ant _ _).alloc (af _) _)
      have hh7:=O1.out.fz.top;have ah4:=O1.out.mkr.lt;obtain⟨nb,hnb⟩:∃nb,wl.heap.size=nb:=⟨_,rfl⟩
      rw[hnb] at hbn hzn hh7 ah4 ⊢;have YC:=hsn.more (Q:=fun w=>Bk w nb 9 yY) (hi2:=wn.heap.size) (by omega) (af _) hbn (fun w w' hq he=>(he nb (by omega) (by omega)).trans hq);have HE0:Hid (MS akR Wf m F7 tH 4 Jq [aQ] 2 none 0 [] [] (fun w=>P7 w/\Bk w nb 9 yY) wn.heap.size wn.heap.size wn):=hd0 (YC.ms acT);generalize wn.heap.size=hE at HE0;clear hbn hsn YC hwn O1 acT;go_wp2_with fail
      go_loopw [17] (fun i wr=>∃(k:Nat) (ft:List alo) (A4:Option Addr) (c4:Nat) (cells:List Value) (top:Nat),k<=8/\i= .int .i64 k/\ft.length<=k/\Hid (∀x∈ft,(nameB x.name=true/\∀n∈x.akK,N9 n)/\x.akK.length<=6)/\Hid (MS akR Wf m F7 tH 4 Jq [aQ] 2 A4 c4 cells ft (fun w=>P7 w/\Bk w nb 9 yY) hE top wr)) (fun i _=>8 - (intOf i).toNat)
      case atStart=>exact⟨0,[],none,0,[],hE,nz _,rfl,nz _,hd0 (by simp),HE0⟩
      case round=>
       obtain⟨wo,rfl⟩:∃x,x=wr:=⟨_,rfl⟩
       obtain⟨k,ft,A4,c4,cells4,akk,hk8,rfl,hft,hoe,HS⟩:=hrel;by_cases NL:k<8
       ·
        have WZ:=hd0 (HS.out.al6 akR.ok HS.out.bnd.2.2.2 (af _));have aja:wo.heap.size<=wo.heap.size:=af _;have hEz:=HS.out.bnd.2.2;clear HS;go_wp2_with fail
        have Um:=hd0 NL;clear NL
        rename ((k:Int)<8)=>hbr
        clear hbr;go_loopw [18,19] (fun rv i wr=>∃(q:Nat) (row:List Int) (Ar:Option Addr) (cr:Nat),q<=ls.length/\i= .int .i64 q/\rv= .slice Ar row.length cr/\row.length<=q/\Hid (∀n∈row,N9 n)/\Hid (MS akR Wf m F7 tH 4 Jq [aQ] 2 A4 c4 cells4 ft (fun w=>P7 w/\Bk w nb 9 yY) hE wo.heap.size wr)/\Hid (wr.ownsRow wo.heap.size aQ 1 (.slice Ar row.length cr) row.length (aH row))) (fun _ i _=>ls.length - (intOf i).toNat)
        case atStart=>exact⟨0,[],none,0,nz _,rfl,rfl,nz _,hd0 (by simp),WZ,hd0 (World.ownsRow_nil _ _ _ _)⟩
        case round=>
         obtain⟨wq,rfl⟩:∃x,x=wr:=⟨_,rfl⟩
         obtain⟨q,row,Ar,cr,hq,rfl,rfl,hrq,hor,HM,HO⟩:=hrel;have x5:wq.cell? ⟨m,5,none⟩=some (.slice A3 ls.length c3):=HM.out.mkr.at' 3 (by omega) ((aV (by decide)).trans Ae.out.1);by_cases hlt6:q<ls.length
         ·go_wp2_with fail
          refine(az wq m (dR F7 4 (.slice A4 ft.length c4)) tH 3 HM.out.mkr (by omega) (by omega)).mono ?_;rintro e wr2 ⟨x,hx,rfl,hm2,hv2⟩;have G9:=hd0 ((Sp.next HM.out.mkr hv2).own HO.out (by decide));have sW:=hd0 (HM.out.next akR.ok (by decide) hm2 hv2);clear hm2 hv2 x5;by_cases hx0:x=0
          ·have e0:((x:Int)==0)=true:=by simp;omega
           have ahl:=sW.out.bnd.2.2.2;clear hx0;go_wp2_with (at_builtin;refine iP iL rfl (.tmp 218) (.tmp 220) rfl wr2 wr2.heap.size rfl wo.heap.size row.length cr Ar (aH row) #[.int .i64 q] rfl rfl rfl G9.out (by simp[Value.oneCell']) (by omega) ahl ?_;intro A9 c9 w5 h5 g5 l5;have He:=hd0 h5;have Au:=hd0 g5;clear h5 g5 l5)
           have O7:=hd0 (sW.out.push akR.ok G9.out (af _) Au.out (by decide) (by decide));have O0:Hid (w5.ownsRow wo.heap.size aQ 1 (.slice A9 (row++[(q:Int)]).length c9) (row++[(q:Int)]).length (aH (row++[(q:Int)]))):=hd0 (by simpa [aH,cI] using He.out);have hor2:Hid (∀n∈row++[(q:Int)],N9 n):=hd0 fun z hz=>by
            rw[anz,anu] at hz;rcases hz with hz|rfl
            ·exact hor.out z hz
            unfold N9;omega
           go_roundw
           case rel=>exact⟨q+1,row++[(q:Int)],A9,c9,by omega,by simp,by simp,by(rw[la];show row.length+1<=q+1;omega),hor2,O7,O0⟩
           case measure=>simp[intOf];omega
          have e0:((x:Int)==0)=false:=by simp;omega
          clear hx0;go_wp2_with fail
          go_roundw
          case rel=>exact⟨q+1,row,Ar,cr,by omega,by simp,rfl,by omega,hor,sW,G9⟩
          case measure=>simp[intOf];omega
         go_wp2_with fail
         refine(az wq m (dR F7 4 (.slice A4 ft.length c4)) tH 2 HM.out.mkr (by omega) (by omega)).mono ?_;rintro e wr2 ⟨x,hx,rfl,hm2,hv2⟩;have G9:=hd0 ((Sp.next HM.out.mkr hv2).own HO.out (by decide));have sW:=hd0 (HM.out.next akR.ok (by decide) hm2 hv2);clear hm2 hv2 x5;by_cases hx0:x=0
         ·have e0:((x:Int)==0)=true:=by simp;omega
          have NL:=Um.out;obtain⟨nm,enm,hnm⟩:=ab8 k NL;have x6:wr2.cell? ⟨m,6,none⟩=some (.slice A4 ft.length c4):=sW.out.cell (by omega);have xn:wr2.cell? ⟨nb,k,none⟩=some (.string ⟨nm.toArray⟩):=(sW.out.fz.now.2.cell k).trans enm;have zm2:=sW.out.mkr.lt;have zn2:=sW.out.fz.now.2.lt;have sf:=SF.out;have lm:akR wr2.drew (TR [aQ] hE wr2.drew.heap.size wr2.drew) [.string ⟨nm.toArray⟩,.slice Ar row.length cr] ⟨nm,row⟩:=⟨Ar,cr,rfl,yH (lo:=hE) (show wr2.drew.ownsRow wo.heap.size aQ 1 (.slice Ar row.length cr) row.length (aH row) from G9.out) (jP _ _ row (fun n hn=>kC (hor.out n hn))) (by simp) (by omega) (by omega)⟩
          obtain⟨B,d,w9,hrun,x9,y9,z9,h9⟩:=(sW.out.drew akR.ok).more akR.ok (by omega) XU (by decide) (by decide) (n:=ft.length) rfl (by omega) ⟨nm,row⟩ #[.string ⟨nm.toArray⟩,.slice Ar row.length cr] rfl (by simp[Value.oneCell']) lm;have Ul:(Builtin.append_ #[27,27] 27 #[.slice A4 ft.length c4,.slice (some ⟨wr2.heap.size,0,none⟩) 1 1]).run Tryz.prog (wr2.alloc (.cells #[.string ⟨nm.toArray⟩,.slice Ar row.length cr] Jq)).drew= .ok (.slice B (ft.length+1) d) w9:=hrun;have H9:=hd0 h9;have aht:Hid (∀x∈ft++[(⟨nm,row⟩:alo)],(nameB x.name=true/\∀n∈x.akK,N9 n)/\x.akK.length<=6):=hd0 fun z hz=>by
           rw[anz,anu] at hz;rcases hz with hz|rfl
           ·exact hoe.out z hz
           exact⟨⟨hnm,hor.out⟩,show row.length<=6 by omega⟩
          clear h9 hrun lm hx0;go_wp2_with fail
          go_region
          all_goals
           go_wp2_with fail
           go_roundw
           case rel=>exact⟨k+1,ft++[(⟨nm,row⟩:alo)],B,d,_,_,by omega,by simp,by(rw[la];show ft.length+1<=k+1;omega),aht,H9⟩
           case measure=>simp[intOf];omega
         have e0:((x:Int)==0)=false:=by simp;omega
         clear hx0;go_wp2_with fail
         have NL:=Um.out;go_roundw
         case rel=>exact⟨k+1,ft,A4,c4,cells4,_,(show k+1<=8 from Um.out),by simp,by omega,hoe,sW⟩
         case measure=>simp[intOf];omega
       have agl:ft.length<=8:=by omega
       obtain⟨P8,h8,uY,HP8⟩:∃P8 h8,Hid (SG Wf m (dR F7 4 (.slice A4 ft.length c4)) tH P8 h8 wo)/\Hid (∀w,P8 w->P7 w/\Sl akR 2 w (TR [Jq,aQ] (m+1) h8 w) A4 ft):=⟨_,_,hd0 (HS.out.sg akR.ok (by omega)),hd0 fun w h=>⟨h.1.1,h.2⟩⟩
       clear HS;have y2:wo.cell? ⟨m,2,none⟩=some (.int .i64 u):=uY.out.mkr.at' 0 (by omega) ((aV (by decide)).trans Ae.out.2.2.2.2.2.2.2);have y3:wo.cell? ⟨m,3,none⟩=some (.slice A1 gs.length c1):=uY.out.mkr.at' 1 (by omega) ((aV (by decide)).trans Ae.out.2.1);have y4:wo.cell? ⟨m,4,none⟩=some (.slice A2 ch.length c2):=uY.out.mkr.at' 2 (by omega) ((aV (by decide)).trans Ae.out.2.2.1);have y5:wo.cell? ⟨m,5,none⟩=some (.slice A3 ls.length c3):=uY.out.mkr.at' 3 (by omega) ((aV (by decide)).trans Ae.out.1);have y6:wo.cell? ⟨m,6,none⟩=some (.slice A4 ft.length c4):=uY.out.mkr.at' 4 (by omega) (eF _ _ _);have y7:wo.cell? ⟨m,7,none⟩=some (.slice A5 xs.length c5):=uY.out.mkr.at' 5 (by omega) ((aV (by decide)).trans Ae.out.2.2.2.2.2.2.1);have y8:wo.cell? ⟨m,8,none⟩=some (.slice A6 rg.length c6):=uY.out.mkr.at' 6 (by omega) ((aV (by decide)).trans Ae.out.2.2.2.2.2.1);have y9:wo.cell? ⟨m,9,none⟩=some (.slice A7 fn.length c7):=uY.out.mkr.at' 7 (by omega) ((aV (by decide)).trans Ae.out.2.2.2.2.1);have y10:wo.cell? ⟨m,10,none⟩=some (.slice A8 cv.length c8):=uY.out.mkr.at' 8 (by omega) ((aV (by decide)).trans Ae.out.2.2.2.1);have hlow:=uY.out.low;have JR:Bk wo w.heap.size oU zeroFn:=(hlow.block _ (by omega)).trans BF.out;have hst:=run_storeVar_row (P:=Tryz.prog) wo w.heap.size oU oU zeroFn #[.int .i64 u,.slice A1 gs.length c1,.slice A2 ch.length c2,.slice A3 ls.length c3,.slice A4 ft.length c4,.slice A5 xs.length c5,.slice A6 rg.length c6,.slice A7 fn.length c7,.slice A8 cv.length c8] JR (by rw[Ie];rfl) rfl (by simp[Value.oneCell']);have Rq:=setRow_heap wo w.heap.size zeroFn #[.int .i64 u,.slice A1 gs.length c1,.slice A2 ch.length c2,.slice A3 ls.length c3,.slice A4 ft.length c4,.slice A5 xs.length c5,.slice A6 rg.length c6,.slice A7 fn.length c7,.slice A8 cv.length c8] oU (0,0) JR;have heq:∀b,b≠w.heap.size->(wo.setRow w.heap.size #[.int .i64 u,.slice A1 gs.length c1,.slice A2 ch.length c2,.slice A3 ls.length c3,.slice A4 ft.length c4,.slice A5 xs.length c5,.slice A6 rg.length c6,.slice A7 fn.length c7,.slice A8 cv.length c8]).heap[b]? =wo.heap[b]? :=fun b hb=>setRow_other wo w.heap.size b _ hb
       have p8:=uY.out.fz.keep _ (wo.setRow w.heap.size #[.int .i64 u,.slice A1 gs.length c1,.slice A2 ch.length c2,.slice A3 ls.length c3,.slice A4 ft.length c4,.slice A5 xs.length c5,.slice A6 rg.length c6,.slice A7 fn.length c7,.slice A8 cv.length c8]) uY.out.fz.now (fun b h1 h2=>heq b (by omega));have hbw:Below w.heap.size w (wo.setRow w.heap.size #[.int .i64 u,.slice A1 gs.length c1,.slice A2 ch.length c2,.slice A3 ls.length c3,.slice A4 ft.length c4,.slice A5 xs.length c5,.slice A6 rg.length c6,.slice A7 fn.length c7,.slice A8 cv.length c8]):=(LF.out.trans (hlow.mono (by omega))).trans ⟨rfl,rfl,rfl,by simp,fun b hb=>heq b (by omega)⟩;generalize hwE:wo.setRow w.heap.size #[.int .i64 u,.slice A1 gs.length c1,.slice A2 ch.length c2,.slice A3 ls.length c3,.slice A4 ft.length c4,.slice A5 xs.length c5,.slice A6 rg.length c6,.slice A7 fn.length c7,.slice A8 cv.length c8]=wE at hst Rq p8 hbw;clear hwE heq;obtain⟨p7,s8⟩:=HP8.out wE p8;obtain⟨p6,s7⟩:=HP7.out wE p7;obtain⟨p5,s6⟩:=HP6.out wE p6;obtain⟨p4,s5⟩:=vw.out wE p5;obtain⟨p3,s4⟩:=HP4.out wE p4;obtain⟨p2,s3⟩:=HP3.out wE p3;obtain⟨p1,s2⟩:=HP2.out wE p2;have s1:=HP1.out wE p1;have hpost:zi w (.returned (.agg #[.int .i64 u,.slice A1 gs.length c1,.slice A2 ch.length c2,.slice A3 ls.length c3,.slice A4 ft.length c4,.slice A5 xs.length c5,.slice A6 rg.length c6,.slice A7 fn.length c7,.slice A8 cv.length c8])) wE:=by refine⟨⟨u,gs,ch,ls,ft,xs,rg,fn,cv⟩,[.int .i64 u,.slice A1 gs.length c1,.slice A2 ch.length c2,.slice A3 ls.length c3,.slice A4 ft.length c4,.slice A5 xs.length c5,.slice A6 rg.length c6,.slice A7 fn.length c7,.slice A8 cv.length c8],abX NY ⟨hox.out,HXS.out⟩ HRG.out ⟨hov.out,ahw⟩ ⟨hof.out,hfn2⟩ ⟨hog.out,hg2,rE⟩ ⟨hoc.out,hk2⟩ ⟨HLS.out,hl6⟩ ⟨hoe.out,agl⟩,rfl,?_,hbw⟩;exact⟨A1,c1,A2,c2,A3,c3,A4,c4,A5,c5,A6,c6,A7,c7,A8,c8,rfl,kC NY,s5.mono akQ.ok (TR.tf (by decide)),s6.mono alm.ok (TR.tf (by decide)),s7.mono akS.ok (TR.tf (by decide)),s8.mono akR.ok (TR.tf (by decide)),s1.mono ale.ok (TR.tf (by decide)),s2.mono akU.ok (TR.tf (by decide)),s3.mono ak6.ok (TR.tf (by decide)),s4.mono akL.ok (TR.tf (by decide))⟩
       have Ib:=hd0 hpost;have HBE:=hd0 Rq;clear hpost Rq s1 s2 s3 s4 s5 s6 s7 s8 p1 p2 p3 p4 p5 p6 p7 p8 hbw JR hlow;go_wp2_with fail
       exact bodyPost_ret (Na HBE.out rfl) rfl Ib.out
end Go.Proofs.YtkijckccfookeaaGreatDoor
