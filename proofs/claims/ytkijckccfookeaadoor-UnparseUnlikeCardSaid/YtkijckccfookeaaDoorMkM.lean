/- Lemmas. -/
import Derived.Test.YtkijckccfookeaaDoorMkGl
import Derived.Test.YtkijckccfookeaaDoorMkAx
import Derived.Test.YtkijckccfookeaaDoorMkLk
set_option linter.unusedVariables false
set_option linter.unusedSimpArgs false
set_option maxRecDepth 100000
set_option maxHeartbeats 32000000
namespace Go.Proofs.YtkijckccfookeaaDoor
open Go.RowKit
attribute [-go_sem] Builtin.append_
abbrev eH:TypeId:=32
abbrev iO:TypeId:=86
abbrev mF:TypeId:=89
abbrev yF:TypeId:=55
abbrev I4:TypeId:=74
abbrev vC:TypeId:=82
theorem Du (t:TypeId)(h:(Tryd.prog.info? t).map (·.size)=some 1)(w:World):(sizeOf t).run Tryd.prog w= .ok 1 w:=by obtain⟨i,hi,hs⟩:=Option.map_eq_some_iff.1 h;simp[sizeOf,typeInfo,hi,hs]
theorem aO (t:TypeId)(h:(Tryd.prog.info? t).map (·.size)=some 1)(A:Option Addr)(n c:Nat)(a:Addr)(w:World):(storeVar t a (.slice A n c)).run Tryd.prog w=(store a (.slice A n c)).run Tryd.prog w:=by
 have hz:=Du t h
 go_simp
theorem Bq (t:TypeId)(h:(Tryd.prog.info? t).map (·.size)=some 1)(k:IntKind)(z:Int)(a:Addr)(w:World):(storeVar t a (.int k z)).run Tryd.prog w=(store a (.int k z)).run Tryd.prog w:=by
 have hz:=Du t h
 go_simp
attribute [-go_sem] storeVar
theorem Q8 (w:World):Calls Tryd.prog 39 #[] w fun e w'=>e= .returned (.slice (some ⟨w.heap.size,0,none⟩) 16 16)/\w'=w.alloc (.cells #[.int .i64 97,.int .i64 98,.int .i64 99,.int .i64 102,.int .i64 105,.int .i64 108,.int .i64 57345,.int .i64 57346,.int .i64 57601,.int .i64 57602,.int .i64 57603,.int .i64 57857,.int .i64 57861,.int .i64 58113,.int .i64 58114,.int .i64 58369] aF):=by
 go_enter Tryd.func39,Tryd.ntmps39
 go_wp2;go_ret
 exact⟨rfl,rfl⟩
def ZO:List B:=[[108,105,103,97],[105,115,111,108],[105,110,105,116],[109,101,100,105],[102,105,110,97],[107,101,114,110],[109,97,114,107],[99,97,108,116]]
def uV:Array Value:=(ZO.map fun(s:B)=>Value.string ⟨s.toArray⟩).toArray
theorem PT (w:World):Calls Tryd.prog 41 #[] w fun e w'=>e= .returned (.slice (some ⟨w.heap.size,0,none⟩) 8 8)/\w'=w.alloc (.cells uV 9):=by
 go_enter Tryd.func41,Tryd.ntmps41
 go_wp2;go_ret
 exact⟨rfl,rfl⟩
def zeroFn:Array Value:= #[.int .i64 0,.slice none 0 0,.slice none 0 0,.slice none 0 0,.slice none 0 0,.slice none 0 0,.slice none 0 0,.slice none 0 0,.slice none 0 0]
def KR (t:afm):List Value:=[.int .i64 t.start,.int .i64 t.peak,.int .i64 t.stop]
def FW (l:List afm):List Value:=l.flatMap KR
theorem Tt (w:World)(S:Bs)(l:List afm)(h:∀x∈l,I64 x.start/\I64 x.peak/\I64 x.stop):Fl afu 3 w S (FW l) l:=oW w S KR l (fun _ _=>rfl) (fun x hx=>⟨rfl,h x hx⟩)
theorem MS.aeT {Wf:World}{m:Nat}{F:Nat->Value}{lp lp2:Int}{A1:Option Addr}{c1:Nat}{cells:List Value}{gs:List aeS}{P:World->Prop}{hi top:Nat}{wr w2:World}{g:aeS}{nc:List Value}{B:Option Addr}{d:Nat}(h:MS aeU Wf m F lp 1 fE BG 9 A1 c1 cells gs P hi top wr)
  (hm:Mk w2 m (dw F 1 (.slice B (gs.length+1) d)) lp2) (ho:w2.ownsRow hi fE 9 (.slice B (gs.length+1) d) (gs.length+1) (cells++nc)) (hn:nc.length=9) (hg:aeU w2 (TR [uH,aF,pK,pq,jZ,kN] wr.heap.size w2.heap.size w2) nc g) (hv:Mv2 m (Value.slice A1 gs.length c1).ownBlock wr w2):
  MS aeU Wf m F lp2 1 fE BG 9 B d (cells++nc) (gs++[g]) P hi w2.heap.size w2:=by
 obtain⟨b1,b2,b3,b4⟩:=h.bnd;have hz:=hv.size;have hl:(gs++[g]).length=gs.length+1:=by simp
 have hlt:∀x,(Value.slice A1 gs.length c1).ownBlock=some x->hi<=x:=fun x hx=>(h.row.lt x hx).1
 refine⟨by rw[hl];exact hm,by rw[hl];exact ho,?_,hv.fz (by omega) hlt h.fz,?_,b1,b2,by omega,ai _⟩
 ·have key:∀b,TR BG hi top wr b->w2.heap[b]? =wr.heap[b]? :=fun b ⟨h1,cs,t,hk,htt⟩=>hv.block b hk.lt (by omega) (fun e=>by
   obtain⟨cur,hb⟩:=gW h.row b e;have:=(jM hb hk).1;subst this;exact absurd htt (by decide))
  have h1:Fl aeU 9 w2 (TR BG hi top w2) cells gs:=h.fl.moved aeU.ok ⟨key,fun b hb=>by
   obtain⟨h1,cs,t,hk,htt⟩:=hb;exact⟨h1,cs,t,(key b ⟨h1,cs,t,hk,htt⟩).trans hk,htt⟩⟩
  exact(h1.mono aeU.ok (TR.sub (fun _ h=>h) (ai _) (by omega))).append (Fl.one (aeU.ok.mono hg (TR.sub (fun _ h=>h) (by omega) (ai _))) hn)
 exact⟨hv.os.trans h.low.os,hv.tape.trans h.low.tape,hv.output.trans h.low.output,nt h.low.size hz,fun i hi'=>(hv.block i (by have:=h.low.size;omega) (by omega) (fun e=>by have:=hlt i e;omega)).trans (h.low.block i hi')⟩
structure TG (Wf:World)(m:Nat)(F:Nat->Value)(P:World->Prop)(hB rb:Nat)(A6:Option Addr)(c6:Nat)(cells:List Value)(rg:List Region)(ts:List afm)(A:Option Addr)(c:Nat)(wr:World):Prop where
 ms:MS aeY Wf m F 0 6 mF [iO] 1 A6 c6 cells rg P hB rb wr
 bk:Bk wr rb mF #[.slice A ts.length c]
 row:wr.ownsRow (rb+1) iO 3 (.slice A ts.length c) ts.length (FW ts)
 ne:∀x,(Value.slice A6 rg.length c6).ownBlock=some x->x≠rb
section
variable {Wf:World} {m:Nat} {F:Nat->Value} {P:World->Prop} {hB rb:Nat} {A6:Option Addr} {c6:Nat} {cells:List Value} {rg:List Region} {ts:List afm} {A:Option Addr} {c:Nat} {wr w2:World}
theorem TG.next (h:TG Wf m F P hB rb A6 c6 cells rg ts A c wr)(hm:Mk w2 m (dw F 6 (.slice A6 rg.length c6)) 0)(hv:Mv m wr w2):TG Wf m F P hB rb A6 c6 cells rg ts A c w2:=⟨h.ms.next aeY.ok (by decide) hm hv,(Sp.next h.ms.mkr hv).bk h.bk (by decide),(Sp.next h.ms.mkr hv).own h.row (by decide),h.ne⟩
theorem TG.below (h:TG Wf m F P hB rb A6 c6 cells rg ts A c wr)(hb:Below wr.heap.size wr w2):TG Wf m F P hB rb A6 c6 cells rg ts A c w2:=by have s:Sp m kw wr w2:=Sp.below hb;exact⟨h.ms.below aeY.ok hb,s.bk h.bk (by decide),s.own h.row (by decide),h.ne⟩
theorem TG.drew (h:TG Wf m F P hB rb A6 c6 cells rg ts A c wr):TG Wf m F P hB rb A6 c6 cells rg ts A c wr.drew:=h.below (agE _ _).drew
theorem TG.alloc (h:TG Wf m F P hB rb A6 c6 cells rg ts A c wr)(o:Obj):TG Wf m F P hB rb A6 c6 cells rg ts A c (wr.alloc o):=h.below ((agE _ _).alloc (ai _) o)
theorem TG.more (h:TG Wf m F P hB rb A6 c6 cells rg ts A c wr)(hl:ts.length<=1000)(v1 v2 v3:Int):
  ∃B d w9,(Builtin.append_ #[87,87] 87 #[.slice A ts.length c,.slice (some ⟨wr.heap.size,0,none⟩) 1 1]).run Tryd.prog (wr.alloc (.cells #[.int .i64 v1,.int .i64 v2,.int .i64 v3] iO))= .ok (.slice B (ts.length+1) d) w9/\
   w9.cell? ⟨rb,0,none⟩=some (.slice A ts.length c)/\w9.frozen? ⟨rb,0,none⟩=false/\rb<w9.heap.size/\TG Wf m F P hB rb A6 c6 cells rg (ts++[⟨v1,v2,v3⟩]) B d (w9.setCell ⟨rb,0,none⟩ (.slice B (ts.length+1) d)):=by
 have hrb:=h.bk.lt;obtain⟨b1,b2,b3,b4⟩:=h.ms.bnd;obtain⟨B,d,w9,hrun,dG,dA,rE⟩:=bQ X5 87 wr (rb+1) _ c A _ #[.int .i64 v1,.int .i64 v2,.int .i64 v3] rfl h.row (by simp[Value.oneCell']) (by omega) (by omega);have s:Sp m iO wr w9:=Sp.push h.row (by omega) dA;have JM:=s.bk h.bk (by decide);have ms9:=h.ms.push aeY.ok h.row (by omega) dA (by decide) (by decide);have Ry:w9.grownBy (w9.setCell ⟨rb,0,none⟩ (.slice B (ts.length+1) d)) (some rb):=bU (World.grownBy.refl _ _) (.inl rfl) _;have s10:Sp m mF w9 (w9.setCell ⟨rb,0,none⟩ (.slice B (ts.length+1) d)):=Sp.set JM (by omega) 0 _;have hn:(ts++[(⟨v1,v2,v3⟩:afm)]).length=ts.length+1:=by simp
 refine⟨B,d,w9,hrun,JM.cell 0,JM.frozen 0,JM.lt,ms9.box aeY.ok Ry (ai _) JM h.ne (by decide),?_,?_,h.ne⟩
 ·rw[hn];exact JM.set 0 _
 rw[hn];have:=s10.own dG (by decide);simpa [FW,KR] using this
end
theorem JU (x:Nat)(h:x<5):∃a b c:Int,(#[.int .i64 0,.int .i64 64,.int .i64 64,.int .i64 0,.int .i64 32,.int .i64 64,.int .i64 (-64),.int .i64 (-64),.int .i64 0,.int .i64 (-1),.int .i64 0,.int .i64 5,.int .i64 10,.int .i64 32,.int .i64 50]:Array Value)[x*3]? =some (.int .i64 a)/\(#[.int .i64 0,.int .i64 64,.int .i64 64,.int .i64 0,.int .i64 32,.int .i64 64,.int .i64 (-64),.int .i64 (-64),.int .i64 0,.int .i64 (-1),.int .i64 0,.int .i64 5,.int .i64 10,.int .i64 32,.int .i64 50]:Array Value)[x*3+1]? =some (.int .i64 b)/\(#[.int .i64 0,.int .i64 64,.int .i64 64,.int .i64 0,.int .i64 32,.int .i64 64,.int .i64 (-64),.int .i64 (-64),.int .i64 0,.int .i64 (-1),.int .i64 0,.int .i64 5,.int .i64 10,.int .i64 32,.int .i64 50]:Array Value)[x*3+2]? =some (.int .i64 c)/\N9 a/\N9 b/\N9 c:=by
 have:x=0\/x=1\/x=2\/x=3\/x=4:=by omega
 unfold N9;rcases this with rfl|rfl|rfl|rfl|rfl<;>exact⟨_,_,_,rfl,rfl,rfl,by omega,by omega,by omega⟩
theorem Vz (k:Nat)(h:k<16):∃u:Int,(#[.int .i64 97,.int .i64 98,.int .i64 99,.int .i64 102,.int .i64 105,.int .i64 108,.int .i64 57345,.int .i64 57346,.int .i64 57601,.int .i64 57602,.int .i64 57603,.int .i64 57857,.int .i64 57861,.int .i64 58113,.int .i64 58114,.int .i64 58369]:Array Value)[k]? =some (.int .i64 u)/\N9 u:=by
 have:k=0\/k=1\/k=2\/k=3\/k=4\/k=5\/k=6\/k=7\/k=8\/k=9\/k=10\/k=11\/k=12\/k=13\/k=14\/k=15:=by omega
 unfold N9;rcases this with rfl|rfl|rfl|rfl|rfl|rfl|rfl|rfl|rfl|rfl|rfl|rfl|rfl|rfl|rfl|rfl<;>exact⟨_,rfl,by omega,by omega⟩
theorem UK (k:Nat)(h:k<8):∃s:B,uV[k]? =some (.string ⟨s.toArray⟩)/\nameB s=true:=by
 have:k=0\/k=1\/k=2\/k=3\/k=4\/k=5\/k=6\/k=7:=by omega
 rcases this with rfl|rfl|rfl|rfl|rfl|rfl|rfl|rfl<;>exact⟨_,rfl,by decide⟩
theorem tZ:(Tryd.prog.info? eH).map (·.size)=some 9:=by kernel_rfl
theorem GG {W:World}{g:Nat}{cs:Array Value}{tmps:Array Value}(hb:W.heap[g]? =some (.cells cs eH (0,0)))(hsz:cs.size=9)(h2:tmps.getD 2 undef= .pointer (some ⟨g,0,none⟩):=by rfl):(results Tryd.f19 tmps).run Tryd.prog W= .ok (.agg cs) W:=by rw[kH (fn:=Tryd.f19) (p:=2) (ty:=eH) rfl,h2];have:=run_loadVar_row (P:=Tryd.prog) W g eH eH cs (0,0) _ hb Tryd.underlying32 rfl (by rw[tZ,hsz]);simp[asAddr,Result.andThen,this]
theorem U0 (x:Nat)(h:x<4):∃u:Int,(#[.int .i64 1000,.int .i64 1024,.int .i64 100,.int .i64 2048]:Array Value)[x]? =some (.int .i64 u)/\N9 u:=by
 have:x=0\/x=1\/x=2\/x=3:=by omega
 unfold N9;rcases this with rfl|rfl|rfl|rfl<;>exact⟨_,rfl,by omega,by omega⟩
abbrev FO:List TypeId:=[fE,uH,aF,pK,pq,jZ,kN,tRow,pI,bJ,fD,kM,iO,mF,yF,I4,vC]
def Tf (w:World):Bs:=fun b=>∃cs t,Bk w b t cs/\t∈FO
theorem TR.tf {ts:List TypeId}{lo hi:Nat}{w:World}(h:∀t∈ts,t∈FO):∀b,TR ts lo hi w b->Tf w b:=fun _ ⟨_,cs,t,h1,h2⟩=>⟨cs,t,h1,h t h2⟩
theorem Tf.lt {w:World}:∀b,Tf w b->b<w.heap.size:=fun _ ⟨_,_,h,_⟩=>h.lt
def vK (w:World)(e:Ending)(w':World):Prop:=∃(f:Fnt) (fc:List Value),afM f/\e= .returned (.agg fc.toArray)/\afe w' (Tf w') fc f/\Below w.heap.size w w'
def Wn:Nat->Value:=fun i=>if i=0 then .int .i64 0 else .slice none 0 0
theorem Lc {w Wf Wm:World}{A:Option Addr}{n:Nat}{zs:List Int}(hbf:Below w.heap.size w Wf)(rX:w.heap.size<=Wf.heap.size)(hr:Rd w w.heap.size A n 1 (aN zs))(hz:∀z∈zs,I64 z)(hn:n<=1000000000)(c:Nat)
  (hW:(Wf.alloc (.cells #[.slice A n c,.int .i64 0,.int .i64 0,.slice none 0 0,.slice none 0 0,.slice none 0 0,.slice none 0 0,.slice none 0 0,.slice none 0 0,.slice none 0 0,.slice none 0 0,.int .i64 0] kw)).alloc (.cells #[.int .i64 1000,.int .i64 1024,.int .i64 100,.int .i64 2048] aF)=Wm):
  Mk Wm Wf.heap.size Wn 0/\Below Wf.heap.size Wf Wm/\Bk Wm (Wf.heap.size+1) aF #[.int .i64 1000,.int .i64 1024,.int .i64 100,.int .i64 2048]/\Wm.heap.size=Wf.heap.size+2:=by
 have hb:Below Wf.heap.size Wf Wm:=by rw[<-hW];exact((agE _ _).alloc (ai _) _).alloc (by simp) _
 refine⟨⟨A,n,c,0,zs,?_,nz _,hn,?_,hz⟩,hb,?_,?_⟩
 ·rw[<-hW];exact(Bk.new _ _ _).alloc _
 ·exact((hr.below hbf (ai _)).mono rX).below hb (ai _)
 ·rw[<-hW];exact ak _ _ (by simp)
 rw[<-hW];simp
def Zh:Op:=Op.load 25 (Operand.tmp 176)
attribute [go_sem] Zh
theorem NM (w:World)(A:Option Addr)(n c:Nat)(zs:List Int)(hr:Rd w w.heap.size A n 1 (aN zs))(hz:∀z∈zs,I64 z)(hn:n<=1000000000):Calls Tryd.prog 19 #[.slice A n c] w (vK w):=by
 have HR:=hd0 hr;have HZ:=hd0 hz;have SI:=hd0 (Bq aF (by kernel_rfl) .i64);have SR:=hd0 (aO 29 (by kernel_rfl));have SC:=hd0 (aO 30 (by kernel_rfl));have SN:=hd0 (aO 22 (by kernel_rfl));have SH:=hd0 (aO 25 (by kernel_rfl));have SF:=hd0 (aO 27 (by kernel_rfl));have ST:=hd0 (aO 87 (by kernel_rfl));have SX:=hd0 (aO 28 (by kernel_rfl));clear hr hz;go_enter Tryd.func19,Tryd.ntmps19
 go_wp2_with fail
 obtain⟨Wf,hWf⟩:∃Wf,w.alloc (.cells #[.int .i64 0,.slice none 0 0,.slice none 0 0,.slice none 0 0,.slice none 0 0,.slice none 0 0,.slice none 0 0,.slice none 0 0,.slice none 0 0] eH)=Wf:=⟨_,rfl⟩
 have hBf:Bk Wf w.heap.size eH zeroFn:=by rw[<-hWf];exact Bk.new _ _ _
 have hbf:Below w.heap.size w Wf:=by rw[<-hWf];exact(agE _ _).alloc (ai _) _
 have rX:w.heap.size+1=Wf.heap.size:=by rw[<-hWf];simp
 obtain⟨Wm,YS⟩:∃Wm,(Wf.alloc (.cells #[.slice A n c,.int .i64 0,.int .i64 0,.slice none 0 0,.slice none 0 0,.slice none 0 0,.slice none 0 0,.slice none 0 0,.slice none 0 0,.slice none 0 0,.slice none 0 0,.int .i64 0] kw)).alloc (.cells #[.int .i64 1000,.int .i64 1024,.int .i64 100,.int .i64 2048] aF)=Wm:=⟨_,rfl⟩
 rw[hWf,YS,rX];have BF:=hd0 hBf;have LF:=hd0 hbf;obtain⟨m,hm⟩:∃m,Wf.heap.size=m:=⟨_,rfl⟩
 obtain⟨YW,hlm,hbk,hzm⟩:=Lc hbf (by rw[<-rX];exact Nat.le_succ _) HR.out HZ.out hn c YS;rw[hm] at YW hbk hzm rX ⊢;have HK:=hd0 YW;have HL:=hd0 hlm;clear hWf YS hBf hbf YW hlm;refine(ay Wm m Wn 0 4 HK.out (by omega) (by omega)).mono ?_;rintro e w2 ⟨x,hx,rfl,hm2,hv2⟩;have hb2:=(Sp.next HK.out hv2).bk hbk (by decide);obtain⟨u,hu,hu9⟩:=U0 x hx;have qx:w2.cell? ⟨m+1,x,none⟩=some (.int .i64 u):=by rw[hb2.cell];exact hu
 have q2:w2.cell? ⟨m,2,none⟩=some (.int .i64 0):=hm2.at' 0 (by omega) rfl;have f2:=hm2.frozen 2;have zm2:=hm2.lt;have si:=SI.out;have qU:=hd0 hm2;have HL2:=hd0 (rQ HL.out (Nat.le_of_eq hm) hv2);clear hm2 hv2 hbk HK HL hb2 hu;go_wp2_with fail
 obtain⟨F0,TA⟩:∃F,dw Wn 0 (.int .i64 u)=F:=⟨_,rfl⟩
 have hu0:F0 0= .int .i64 u:=by rw[<-TA];rfl
 have HN:Hid (∀i,1<=i->F0 i= .slice none 0 0):=hd0 (fun i hi=>by rw[<-TA,aI (by omega)];exact if_neg (by omega));have HU:=hd0 hu0;have hk3:=qU.out.put 0 (by omega) (.int .i64 u);have hv3:=qU.out.mvp 2 (.int .i64 u);rw[TA] at hk3;obtain⟨w3,hw3⟩:∃w3,w2.setCell ⟨m,2,none⟩ (.int .i64 u)=w3:=⟨_,rfl⟩
 rw[hw3] at hk3 hv3 ⊢;have xe:=hd0 hk3;have qI:=hd0 (rQ HL2.out (Nat.le_of_eq hm) hv3);clear hw3 hk3 hv3 qU HL2 qx q2 f2 TA hu0 si;refine(ay w3 m F0 0 3 xe.out (by omega) (by omega)).mono ?_;rintro e w4 ⟨ka,hka,rfl,hm4,hv4⟩;have hl4:=rQ qI.out (Nat.le_of_eq hm) hv4;have adX:=hm4.lt;have nI:Hid (MS ae2 Wf m F0 0 5 kM [] 4 none 0 [] [] (fun _=>True) w4.heap.size w4.heap.size w4):=hd0 (MS.start hm4 (HN.out 5 (by omega)) (Fzn.true (hi:=m+1) (by omega)) hl4 ⟨by omega,by omega⟩);generalize w4.heap.size=hA at nI;clear hm4 hv4 hl4 xe qI;go_wp2_with fail
 go_loopw [5] (fun i wr=>∃(xs:List afp) (A5:Option Addr) (c5:Nat) (cells:List Value) (top:Nat),xs.length<=ka/\i= .int .i64 xs.length/\Hid ((∀a∈xs,nameB a.name=true/\N9 a.min'/\N9 a.afk/\N9 a.max'))/\Hid (MS ae2 Wf m F0 0 5 kM [] 4 A5 c5 cells xs (fun _=>True) hA top wr)) (fun i _=>ka - (intOf i).toNat)
 case atStart=>exact⟨[],none,0,[],hA,nz _,rfl,hd0 (by simp),nI⟩
 case round=>
  obtain⟨wa,rfl⟩:∃x,x=wr:=⟨_,rfl⟩
  obtain⟨xs,A5,c5,cells,top,hk,rfl,hox,HS⟩:=hrel;by_cases hlt:xs.length<ka
  ·have hna:xs.length<3:=by omega
   have HI:Hid (GI wa m (dw F0 5 (.slice A5 xs.length c5)) 0 wa):=hd0 ⟨HS.out.mkr,yA m wa⟩
   go_upto_region 7 with fail
   refine VA wa m xs.length (dw F0 5 (.slice A5 xs.length c5)) HI (by omega) _ _ (by kernel_rfl) _ _ _ _ _ _ _ _ _ _ _ _ _ _ _ _ _ _ _ _ _ _ _ _ _ _ _ _ _ _ _ _ _ _ _ _ _ _ _ _ _ _ _ _ _ _ _ _ _ _ _ _ _ _ _ _ _ _ _ _ _ _ _ _ _ _ _ _ _ _ _ _ _ _ _ _ _ _ _ _ _ _ _ _ _ _ _ _ _ _ _ _ _ _ _ _ _ _ _ _ _ _ _ _ _ _ _ _ _ _ _ _ _ _ _ _ _ _ _ _ _ _ _ _ _ _ _ _ _ _ _ _ _ _ _ _ _ _ _ _ _ _ _ _ _ _ _ _ _ _ _ _ _ _ _ _ _ _ _ _ _ _ _ _ _ _ _ _ _ _ _ _ _ _ _ _ _ _ _ _ _ _ _ _ _ _ _ _ _ _ _ _ _ _ _ _ _ _ _ _ _ _ _ _ _ _ _ _ _ _ _ _ _ _ _ _ _ _ _ _ _ _ _ _ _ _ _ _ _ _ _ _ _ _ _ _ _ _ _ _ _ _ _ _ _ (hd0 ?_);intro g mn mx wx v39 v40 v41 v42 v43 v44 v45 v46 v47 v48 v49 v50 v51 v52 hg hmn hmx hbx hgi;have HX:=hd0 (HS.out.next ae2.ok (by decide) hgi.mkr hgi.mv);have x7:wx.cell? ⟨m,7,none⟩=some (.slice A5 xs.length c5):=HX.out.cell (by omega);have d0:=hbx.cell 0;have d1:=hbx.cell 1;have d2:=hbx.cell 2;have d3:=hbx.cell 3;have zgx:=hbx.lt;have zmx:=HX.out.mkr.lt;have sx:=SX.out;obtain⟨B,d,w9,hrun,x9,y9,z9,h9⟩:=(HX.out.drew ae2.ok).more ae2.ok (by omega) Hf (by decide) (by decide) (n:=xs.length) rfl (by omega) (⟨xx xs.length,mn,0,mx⟩:afp) #[.string ⟨(xx xs.length).toArray⟩,.int .i64 mn,.int .i64 0,.int .i64 mx] rfl (by simp[Value.oneCell']) ⟨rfl,je hmn,(show I64 0 from⟨by decide,by decide⟩),je hmx⟩;have LC:(Builtin.append_ #[28,28] 28 #[.slice A5 xs.length c5,.slice (some ⟨wx.heap.size,0,none⟩) 1 1]).run Tryd.prog (wx.alloc (.cells #[.string ⟨(xx xs.length).toArray⟩,.int .i64 mn,.int .i64 0,.int .i64 mx] kM)).drew= .ok (.slice B (xs.length+1) d) w9:=hrun;have H9:=hd0 h9;have acl:Hid (∀a∈xs++[(⟨xx xs.length,mn,0,mx⟩:afp)],nameB a.name=true/\N9 a.min'/\N9 a.afk/\N9 a.max'):=hd0 fun a ha=>by
    rw[agJ,agF] at ha;rcases ha with ha|rfl
    ·exact hox.out a ha
    exact⟨Y0 ⟨xs.length,hna⟩,hmn,(show N9 0 from⟨by decide,by decide⟩),hmx⟩
   have abp:Hid (MS ae2 Wf m F0 0 5 kM [] 4 B d (cells++[.string ⟨(xx xs.length).toArray⟩,.int .i64 mn,.int .i64 0,.int .i64 mx]) (xs++[(⟨xx xs.length,mn,0,mx⟩:afp)]) (fun _=>True) hA wx.heap.size (w9.setCell ⟨m,7,none⟩ (.slice B (xs.length+1) d))):=H9;clear h9 H9 hrun hbx hgi hmn hmx;go_wp2_with fail
   go_region
   all_goals
    go_wp2_with fail
    go_roundw
    case rel=>exact⟨xs++[(⟨xx xs.length,mn,0,mx⟩:afp)],B,d,_,_,by(rw[la];show xs.length+1<=ka;omega),by simp,acl,abp⟩
    case measure=>simp[intOf];omega
  obtain⟨P1,h1,IU,HP1⟩:∃P1 h1,Hid (SG Wf m (dw F0 5 (.slice A5 xs.length c5)) 0 P1 h1 wa)/\Hid (∀w,P1 w->Sl ae2 4 w (TR [kM] (m+1) h1 w) A5 xs):=⟨_,_,hd0 (HS.out.sg ae2.ok (by omega)),hd0 fun w h=>h.2⟩
  obtain⟨F1,hF1⟩:∃F,dw F0 5 (.slice A5 xs.length c5)=F:=⟨_,rfl⟩
  have Yx:Hid (F1 5= .slice A5 xs.length c5):=by rw[<-hF1];exact hd0 (dH _ _ _)
  have VR:Hid (F1 0= .int .i64 u):=by rw[<-hF1];exact hd0 ((aI (by decide)).trans HU.out)
  have Ur:Hid (∀i,1<=i->i≠5->F1 i= .slice none 0 0):=by rw[<-hF1];exact hd0 fun i hi h5=>(aI h5).trans (HN.out i hi)
  rw[hF1] at IU;have HXS:=hd0 (show xs.length<=2 by omega);clear hF1 HS HN HU
  go_upto_if 66 with fail
  go_cut [7,8,9,10,66] from 67 to 105 (fun _ _ _ _ _ wx=>∃(rg:List Region) (A6:Option Addr) (c6:Nat) (P2:World->Prop) (h2:Nat),((∀r∈rg,(∀t∈r.ae0,N9 t.start/\N9 t.peak/\N9 t.stop)/\r.ae0.length<=2)/\rg.length<=3)/\(∀w,P2 w->P1 w/\Sl aeY 1 w (TR [mF,iO] (m+1) h2 w) A6 rg)/\SG Wf m (dw F1 6 (.slice A6 rg.length c6)) 0 P2 h2 wx)
  case first=>
   by_cases h0:0<ka
   ·go_wp2_with fail
    refine(ay wa m F1 0 4 IU.out.mkr (by omega) (by omega)).mono ?_;rintro e wb ⟨nr,hnr,rfl,hmb,hvb⟩;have HR0:Hid (MS aeY Wf m F1 0 6 mF [iO] 1 none 0 [] [] P1 wb.heap.size wb.heap.size wb):=hd0 ((IU.out.next hmb hvb).ms (Ur.out 6 (by omega) (by omega)));generalize wb.heap.size=hB at HR0;clear hmb hvb;go_wp2_with fail
    go_loopw [8] (fun i wr=>∃(rg:List Region) (A6:Option Addr) (c6:Nat) (cells:List Value) (top:Nat),rg.length<=nr/\i= .int .i64 rg.length/\Hid (∀r∈rg,(∀t∈r.ae0,N9 t.start/\N9 t.peak/\N9 t.stop)/\r.ae0.length<=2)/\Hid (MS aeY Wf m F1 0 6 mF [iO] 1 A6 c6 cells rg P1 hB top wr)) (fun i _=>nr - (intOf i).toNat)
    case atStart=>exact⟨[],none,0,[],hB,nz _,rfl,hd0 (by simp),HR0⟩
    case round=>
     obtain⟨wd,rfl⟩:∃x,x=wr:=⟨_,rfl⟩
     obtain⟨rg,A6,c6,cells,top,hk2,rfl,hor,HS⟩:=hrel;by_cases hlt2:rg.length<nr
     ·go_wp2_with fail
      obtain⟨we,hwe⟩:∃we,wd.alloc (.cells #[.slice none 0 0] mF)=we:=⟨_,rfl⟩
      have HT0:Hid (TG Wf m F1 P1 hB wd.heap.size A6 c6 cells rg [] none 0 we):=by rw[<-hwe];have h1:=HS.out.below aeY.ok ((agE wd.heap.size wd).alloc (ai _) (.cells #[.slice none 0 0] mF));exact hd0 ⟨h1.afK aeY.ok HS.out.bnd.2.2.2 (by simp),Bk.new _ _ _,World.ownsRow_nil _ _ _ _,fun x hx=>Nat.ne_of_lt (HS.out.row.lt x hx).2⟩
      rw[hwe];clear hwe HS;go_loopw [10] (fun i wr=>∃(ts:List afm) (At:Option Addr) (ct:Nat),ts.length<=ka/\i= .int .i64 ts.length/\Hid (∀t∈ts,N9 t.start/\N9 t.peak/\N9 t.stop)/\Hid (TG Wf m F1 P1 hB wd.heap.size A6 c6 cells rg ts At ct wr)) (fun i _=>ka - (intOf i).toNat)
      case atStart=>exact⟨[],none,0,nz _,rfl,hd0 (by simp),HT0⟩
      case round=>
       obtain⟨wg,rfl⟩:∃x,x=wr:=⟨_,rfl⟩
       obtain⟨ts,At,ct,hk3,rfl,hot,HT⟩:=hrel;have xr:wg.cell? ⟨wd.heap.size,0,none⟩=some (.slice At ts.length ct):=HT.out.bk.cell 0;have zrb:=HT.out.bk.lt;by_cases hlt3:ts.length<ka
       ·
        have hrm:wd.heap.size≠m:=by have:=HT.out.ms.bnd;omega
        have bH:True:=trivial;have st:=ST.out;go_wp2_with fail
        go_region_with (first
         |(go_at_call 36;have _t:=bH;first
          |(refine(ay _ m (dw F1 6 (.slice A6 rg.length c6)) 0 5 (by exact(HT.out.drew.alloc _).ms.mkr) (by omega) (by omega)).mono ?_;rintro e w3 ⟨x,hx,rfl,aX,hv3⟩;have H3:=(HT.out.drew.alloc (.cells #[.int .i64 0,.int .i64 64,.int .i64 64,.int .i64 0,.int .i64 32,.int .i64 64,.int .i64 (-64),.int .i64 (-64),.int .i64 0,.int .i64 (-1),.int .i64 0,.int .i64 5,.int .i64 10,.int .i64 32,.int .i64 50] iO)).next aX hv3;have hL:=(Sp.next (HT.out.drew.alloc (.cells #[.int .i64 0,.int .i64 64,.int .i64 64,.int .i64 0,.int .i64 32,.int .i64 64,.int .i64 (-64),.int .i64 (-64),.int .i64 0,.int .i64 (-1),.int .i64 0,.int .i64 5,.int .i64 10,.int .i64 32,.int .i64 50] iO)).ms.mkr hv3).bk (Bk.new wg.drew iO #[.int .i64 0,.int .i64 64,.int .i64 64,.int .i64 0,.int .i64 32,.int .i64 64,.int .i64 (-64),.int .i64 (-64),.int .i64 0,.int .i64 (-1),.int .i64 0,.int .i64 5,.int .i64 10,.int .i64 32,.int .i64 50]) (by decide);obtain⟨ta,tb,tc,ea,eb,ec,na,nb,nc⟩:=JU x hx;have qa:w3.cell? ⟨wg.heap.size,x*3,none⟩=some (.int .i64 ta):=(hL.cell _).trans ea;have qb:w3.cell? ⟨wg.heap.size,x*3+1,none⟩=some (.int .i64 tb):=(hL.cell _).trans eb;have qc:w3.cell? ⟨wg.heap.size,x*3+2,none⟩=some (.int .i64 tc):=(hL.cell _).trans ec;have KJ:w3.cell? ⟨wd.heap.size,0,none⟩=some (.slice At ts.length ct):=H3.bk.cell 0;have Bg:=H3.bk.lt;obtain⟨B,d,w9,hrun,x9,y9,z9,h9⟩:=H3.more (by omega) ta tb tc;have H9:=hd0 h9;have Jy:=hd0 (And.intro na (And.intro nb nc));clear _t bH hL H3 h9 aX hv3 ea eb ec na nb nc)
          |(refine(ay _ m (dw F1 6 (.slice A6 rg.length c6)) 0 5 (by exact HT.out.drew.ms.mkr) (by omega) (by omega)).mono ?_;rintro e w3 ⟨x,hx,rfl,aX,hv3⟩;have H3:=(HT.out.drew.next aX hv3).alloc (.cells #[.int .i64 0,.int .i64 64,.int .i64 64,.int .i64 0,.int .i64 32,.int .i64 64,.int .i64 (-64),.int .i64 (-64),.int .i64 0,.int .i64 (-1),.int .i64 0,.int .i64 5,.int .i64 10,.int .i64 32,.int .i64 50] iO);have h3:=HT.out.drew.next aX hv3;obtain⟨ta,tb,tc,ea,eb,ec,na,nb,nc⟩:=JU x hx;have hL:=Bk.new w3 iO #[.int .i64 0,.int .i64 64,.int .i64 64,.int .i64 0,.int .i64 32,.int .i64 64,.int .i64 (-64),.int .i64 (-64),.int .i64 0,.int .i64 (-1),.int .i64 0,.int .i64 5,.int .i64 10,.int .i64 32,.int .i64 50];have qa:(w3.alloc (.cells #[.int .i64 0,.int .i64 64,.int .i64 64,.int .i64 0,.int .i64 32,.int .i64 64,.int .i64 (-64),.int .i64 (-64),.int .i64 0,.int .i64 (-1),.int .i64 0,.int .i64 5,.int .i64 10,.int .i64 32,.int .i64 50] iO)).cell? ⟨w3.heap.size,x*3,none⟩=some (.int .i64 ta):=(hL.cell _).trans ea;have qb:(w3.alloc (.cells #[.int .i64 0,.int .i64 64,.int .i64 64,.int .i64 0,.int .i64 32,.int .i64 64,.int .i64 (-64),.int .i64 (-64),.int .i64 0,.int .i64 (-1),.int .i64 0,.int .i64 5,.int .i64 10,.int .i64 32,.int .i64 50] iO)).cell? ⟨w3.heap.size,x*3+1,none⟩=some (.int .i64 tb):=(hL.cell _).trans eb;have qc:(w3.alloc (.cells #[.int .i64 0,.int .i64 64,.int .i64 64,.int .i64 0,.int .i64 32,.int .i64 64,.int .i64 (-64),.int .i64 (-64),.int .i64 0,.int .i64 (-1),.int .i64 0,.int .i64 5,.int .i64 10,.int .i64 32,.int .i64 50] iO)).cell? ⟨w3.heap.size,x*3+2,none⟩=some (.int .i64 tc):=(hL.cell _).trans ec;have KJ:w3.cell? ⟨wd.heap.size,0,none⟩=some (.slice At ts.length ct):=h3.bk.cell 0;have Bg:=h3.bk.lt;obtain⟨B,d,w9,hrun,x9,y9,z9,h9⟩:=H3.more (by omega) ta tb tc;rw[World.size_alloc] at hrun;have H9:=hd0 h9;have Jy:=hd0 (And.intro na (And.intro nb nc));clear _t bH hL H3 h3 h9 aX hv3 ea eb ec na nb nc)))
        all_goals
         have aa3:Hid (∀t∈ts++[(⟨ta,tb,tc⟩:afm)],N9 t.start/\N9 t.peak/\N9 t.stop):=hd0 fun t ht=>by
          rw[agJ,agF] at ht;rcases ht with ht|rfl
          ·exact hot.out t ht
          exact Jy.out
         clear hrun x9 y9 z9 KJ Bg qa qb qc;go_wp2_with fail
         go_roundw
         case rel=>exact⟨ts++[(⟨ta,tb,tc⟩:afm)],B,d,by(rw[la];show ts.length+1<=ka;omega),by simp,aa3,H9⟩
         case measure=>simp[intOf];omega
       have hbn:=HT.out.ms.bnd;have x8:wg.cell? ⟨m,8,none⟩=some (.slice A6 rg.length c6):=HT.out.ms.cell (by omega);have zm:=HT.out.ms.mkr.lt;have srg:=SR.out;have OV:aeY wg.drew (TR [iO] hB wg.drew.heap.size wg.drew) [.slice At ts.length ct] ⟨ts⟩:=⟨At,ct,rfl,uD (lo:=hB) HT.out.drew.row (Tt _ _ ts fun t ht=>by have h:=hot.out t ht;exact⟨je h.1,je h.2.1,je h.2.2⟩) (by simp) (by omega) (by omega)⟩
       obtain⟨B,d,w9,hrun,x9,y9,z9,h9⟩:=HT.out.drew.ms.more aeY.ok (by omega) Au (by decide) (by decide) (n:=rg.length) rfl (by omega) ⟨ts⟩ #[.slice At ts.length ct] rfl (by simp[Value.oneCell']) OV;have LC:(Builtin.append_ #[29,29] 29 #[.slice A6 rg.length c6,.slice (some ⟨wg.heap.size,0,none⟩) 1 1]).run Tryd.prog (wg.alloc (.cells #[.slice At ts.length ct] mF)).drew= .ok (.slice B (rg.length+1) d) w9:=hrun;have H9:Hid (MS aeY Wf m F1 0 6 mF [iO] 1 B d (cells++[.slice At ts.length ct]) (rg++[⟨ts⟩]) P1 hB wg.heap.size (w9.setCell ⟨m,8,none⟩ (.slice B (rg.length+1) d))):=hd0 h9;have hor2:Hid (∀r∈rg++[(⟨ts⟩:Region)],(∀t∈r.ae0,N9 t.start/\N9 t.peak/\N9 t.stop)/\r.ae0.length<=2):=hd0 fun r hr=>by
        rw[agJ,agF] at hr;rcases hr with hr|rfl
        ·exact hor.out r hr
        exact⟨hot.out,show ts.length<=2 by omega⟩
       clear h9 hrun OV hbn;go_wp2_with fail
       go_region
       all_goals
        go_wp2_with fail
        go_roundw
        case rel=>exact⟨rg++[(⟨ts⟩:Region)],B,d,_,_,by(rw[la];show rg.length+1<=nr;omega),by simp,hor2,H9⟩
        case measure=>simp[intOf];omega
     go_wp2_with fail
     go_meet
     exact⟨rg,A6,c6,_,_,⟨hor.out,by omega⟩,fun w h=>h,HS.out.sg aeY.ok (by omega)⟩
   have aeC:ka=0:=by omega
   go_wp2_with fail
   go_meet
   refine⟨[],none,0,P1,h1,by simp,fun w h=>⟨h,Sl.nil⟩,?_⟩;have e6:dw F1 6 (.slice none ([]:List Region).length 0)=F1:=Qi (Ur.out 6 (by omega) (by omega));rw[e6];exact IU.out
  case rest=>
  obtain⟨rg,A6,c6,P2,h2,hrg,hP2,hsg⟩:=hcut;obtain⟨wb,rfl⟩:∃x,x=wc:=⟨_,rfl⟩
  obtain⟨F2,hF2⟩:∃F,dw F1 6 (.slice A6 rg.length c6)=F:=⟨_,rfl⟩
  have Xf:Hid (F2 6= .slice A6 rg.length c6):=by rw[<-hF2];exact hd0 (dH _ _ _)
  have Xd:Hid (F2 5= .slice A5 xs.length c5):=by rw[<-hF2];exact hd0 ((aI (by decide)).trans Yx.out)
  have WS:Hid (F2 0= .int .i64 u):=by rw[<-hF2];exact hd0 ((aI (by decide)).trans VR.out)
  have WA:Hid (∀i,1<=i->i≠5->i≠6->F2 i= .slice none 0 0):=by rw[<-hF2];exact hd0 fun i hi h5 h6=>(aI h6).trans (Ur.out i hi h5)
  rw[hF2] at hsg;have Td:=hd0 hsg;have Uc:=hd0 hrg;have HP2:=hd0 hP2;have hrg3:=hrg.2;clear hF2 hsg hrg hP2 Ur VR Yx IU;go_wp2_with fail
  refine(ay wb m F2 0 3 Td.out.mkr (by omega) (by omega)).mono ?_;rintro e wd ⟨kf,bD,rfl,hmd,hvd⟩;have NJ:Hid (MS ae1 Wf m F2 0 7 yF [kN] 1 none 0 [] [] P2 wd.heap.size wd.heap.size wd):=hd0 ((Td.out.next hmd hvd).ms (WA.out 7 (by omega) (by omega) (by omega)));generalize wd.heap.size=hC at NJ;clear hmd hvd Td;go_wp2_with fail
  go_loopw [11] (fun i wr=>∃(fn:List (List Ins)) (A7:Option Addr) (c7:Nat) (cells:List Value) (top:Nat) (lp:Int),fn.length<=kf/\i= .int .i64 fn.length/\Hid (∀p∈fn,jr p/\p.length<=60)/\Hid (MS ae1 Wf m F2 lp 7 yF [kN] 1 A7 c7 cells fn P2 hC top wr)) (fun i _=>kf - (intOf i).toNat)
  case atStart=>exact⟨[],none,0,[],hC,0,nz _,rfl,hd0 (by simp),NJ⟩
  case round=>
   obtain⟨we,rfl⟩:∃x,x=wr:=⟨_,rfl⟩
   obtain⟨fn,A7,c7,cells,top,lp,hkn,rfl,hof,HS⟩:=hrel;by_cases hlt:fn.length<kf
   ·
    have c11:we.cell? ⟨m,11,none⟩=some (.int .i64 lp):=HS.out.mkr.cells.2;have f11:=HS.out.mkr.frozen 11;have zme:=HS.out.mkr.lt;have si:=SI.out
    go_upto_region 25 with fail
    have Ec:Hid (MS ae1 Wf m F2 0 7 yF [kN] 1 A7 c7 cells fn P2 hC top (we.setCell ⟨m,11,none⟩ (.int .i64 0))):=hd0 (HS.out.next ae1.ok (by decide) (HS.out.mkr.loops 0) (HS.out.mkr.mvp 11 _));obtain⟨w1,hw1⟩:∃w1,we.setCell ⟨m,11,none⟩ (.int .i64 0)=w1:=⟨_,rfl⟩
    rw[hw1] at Ec ⊢;clear hw1 c11 f11 zme HS si;have x9m:w1.cell? ⟨m,9,none⟩=some (.slice A7 fn.length c7):=Ec.out.cell (by omega);have zm1:=Ec.out.mkr.lt;have hbn:=Ec.out.bnd;have sc:=SC.out;have bH:True:=trivial
    go_region_with (go_at_call 37;have _t:=bH;refine(Js _ m (dw F2 7 (.slice A7 fn.length c7)) 0 6 fn.length 4 (by exact Ec.out.mkr) (by omega) (by omega) (by omega) (by omega) (by omega)).mono ?_;rintro e w3 ⟨pc,Ap,cp,lp2,hp,hpl,hlp,rfl,hcap,sp,aX,hv3⟩;have H3:=(Ec.out.drew ae1.ok).next ae1.ok (by decide) aX hv3;have x93:w3.cell? ⟨m,9,none⟩=some (.slice A7 fn.length c7):=H3.cell (by omega);have Oz:=H3.mkr.lt;obtain⟨B,d,w9,hrun,x9,y9,z9,h9⟩:=H3.more ae1.ok (by omega) Jb (by decide) (by decide) (n:=fn.length) rfl (by omega) pc #[.slice Ap pc.length cp] rfl (by simp[Value.oneCell']) ⟨Ap,cp,rfl,sp.mono ae9.ok (TR.afT (by show hC<=w1.heap.size;omega))⟩;have H9:=hd0 h9;have HPC:=hd0 (And.intro hp hpl);clear _t bH H3 h9 aX hv3 sp hp)
    all_goals
     have abO:Hid (∀p∈fn++[pc],jr p/\p.length<=60):=hd0 fun p hp=>by
      rw[agJ,agF] at hp;rcases hp with hp|rfl
      ·exact hof.out p hp
      exact⟨HPC.out.1,by have:=HPC.out.2;omega⟩
     clear hrun x9 y9 z9 x93 Oz sc;go_wp2_with fail
     go_roundw
     case rel=>exact⟨fn++[pc],B,d,_,_,lp2,by(rw[la];show fn.length+1<=kf;omega),by simp,abO,H9⟩
     case measure=>simp[intOf];omega
   obtain⟨P3,h3,MF,Oe⟩:∃P3 h3,Hid (SG Wf m (dw F2 7 (.slice A7 fn.length c7)) lp P3 h3 we)/\Hid (∀w,P3 w->P2 w/\Sl ae1 1 w (TR [yF,kN] (m+1) h3 w) A7 fn):=⟨_,_,hd0 (HS.out.sg ae1.ok (by omega)),hd0 fun w h=>h⟩
   obtain⟨F3,hF3⟩:∃F,dw F2 7 (.slice A7 fn.length c7)=F:=⟨_,rfl⟩
   have Xl:Hid (F3 7= .slice A7 fn.length c7):=by rw[<-hF3];exact hd0 (dH _ _ _)
   have VU:Hid (F3 6= .slice A6 rg.length c6):=by rw[<-hF3];exact hd0 ((aI (by decide)).trans Xf.out)
   have YB:Hid (F3 5= .slice A5 xs.length c5):=by rw[<-hF3];exact hd0 ((aI (by decide)).trans Xd.out)
   have YX:Hid (F3 0= .int .i64 u):=by rw[<-hF3];exact hd0 ((aI (by decide)).trans WS.out)
   have Jy:Hid (∀i,1<=i->i≠5->i≠6->i≠7->F3 i= .slice none 0 0):=by rw[<-hF3];exact hd0 fun i hi h5 h6 h7=>(aI h7).trans (WA.out i hi h5 h6)
   rw[hF3] at MF;have hfn2:fn.length<=2:=by omega
   clear hF3 WA WS Xd Xf HS;go_wp2_with fail
   refine(ay we m F3 lp 4 MF.out.mkr (by omega) (by omega)).mono ?_;rintro e wf ⟨kc,hkc,rfl,hmf,Ox⟩;have HV0:Hid (MS aeQ Wf m F3 lp 8 aF [] 1 none 0 [] [] P3 wf.heap.size wf.heap.size wf):=hd0 ((MF.out.next hmf Ox).ms (Jy.out 8 (by omega) (by omega) (by omega) (by omega)));generalize wf.heap.size=hV at HV0;clear hmf Ox MF;go_wp2_with fail
   go_loopw [12] (fun i wr=>∃(cv:List Int) (A8:Option Addr) (c8:Nat) (cells:List Value) (top:Nat),cv.length<=kc/\i= .int .i64 cv.length/\Hid (∀n∈cv,N9 n)/\Hid (MS aeQ Wf m F3 lp 8 aF [] 1 A8 c8 cells cv P3 hV top wr)) (fun i _=>kc - (intOf i).toNat)
   case atStart=>exact⟨[],none,0,[],hV,nz _,rfl,hd0 (by simp),HV0⟩
   case round=>
    obtain⟨wg,rfl⟩:∃x,x=wr:=⟨_,rfl⟩
    obtain⟨cv,A8,c8,acp,adQ,hkv,rfl,hov,HS⟩:=hrel;by_cases hlt2:cv.length<kc
    ·
     have x10:wg.cell? ⟨m,10,none⟩=some (.slice A8 cv.length c8):=HS.out.cell (by omega);have zmg:=HS.out.mkr.lt;have sn:=SN.out;have bH:True:=trivial;go_wp2_with fail
     go_region_with (go_at_call 36;have _t:=bH;refine(ay _ m (dw F3 8 (.slice A8 cv.length c8)) lp 500 (by exact HS.out.mkr) (by omega) (by omega)).mono ?_;rintro e w3 ⟨x,hx,rfl,aX,hv3⟩;have H3:=(HS.out.drew aeQ.ok).next aeQ.ok (by decide) aX hv3;have x103:w3.cell? ⟨m,10,none⟩=some (.slice A8 cv.length c8):=H3.cell (by omega);have Oz:=H3.mkr.lt;have hw1:IntKind.i64.wrap ((x:Int) - 100)=(x:Int) - 100:=wrap_in _ (by omega) (by omega);obtain⟨B,d,w9,hrun,x9,y9,z9,h9⟩:=H3.more aeQ.ok (by omega) ku (by decide) (by decide) (n:=cv.length) rfl (by omega) (IntKind.i64.wrap ((x:Int) - 100)) #[.int .i64 (IntKind.i64.wrap ((x:Int) - 100))] rfl (by simp[Value.oneCell']) ⟨rfl,by rw[hw1];exact⟨by omega,by omega⟩⟩;have H9:=hd0 h9;have HW1:=hd0 hw1;clear _t bH hw1 H3 h9 aX hv3)
     all_goals
      have abE:Hid (∀n∈cv++[IntKind.i64.wrap ((x:Int) - 100)],N9 n):=hd0 fun z hz=>by
       rw[agJ,agF] at hz;rcases hz with hz|rfl
       ·exact hov.out z hz
       rw[HW1.out];unfold N9;omega
      clear hrun x9 y9 z9 x103 Oz sn;go_wp2_with fail
      go_roundw
      case rel=>exact⟨cv++[IntKind.i64.wrap ((x:Int) - 100)],B,d,_,_,by(rw[la];show cv.length+1<=kc;omega),by simp,abE,H9⟩
      case measure=>simp[intOf];omega
    obtain⟨P4,h4,NC,BI⟩:∃P4 h4,Hid (SG Wf m (dw F3 8 (.slice A8 cv.length c8)) lp P4 h4 wg)/\Hid (∀w,P4 w->P3 w/\Sl aeQ 1 w (TR [aF] (m+1) h4 w) A8 cv):=⟨_,_,hd0 (HS.out.sg aeQ.ok (by omega)),hd0 fun w h=>h⟩
    obtain⟨F4,ES⟩:∃F,dw F3 8 (.slice A8 cv.length c8)=F:=⟨_,rfl⟩
    have Xp:Hid (F4 8= .slice A8 cv.length c8):=by rw[<-ES];exact hd0 (dH _ _ _)
    have RI:Hid (F4 7= .slice A7 fn.length c7):=by rw[<-ES];exact hd0 ((aI (by decide)).trans Xl.out)
    have QF:Hid (F4 6= .slice A6 rg.length c6):=by rw[<-ES];exact hd0 ((aI (by decide)).trans VU.out)
    have XL:Hid (F4 5= .slice A5 xs.length c5):=by rw[<-ES];exact hd0 ((aI (by decide)).trans YB.out)
    have Zb:Hid (F4 0= .int .i64 u):=by rw[<-ES];exact hd0 ((aI (by decide)).trans YX.out)
    have X0:Hid (∀i,1<=i->i<5->F4 i= .slice none 0 0):=by rw[<-ES];exact hd0 fun i hi h5=>(aI (by omega)).trans (Jy.out i hi (by omega) (by omega) (by omega))
    rw[ES] at NC;have aas:cv.length<=3:=by omega
    clear ES Jy YX YB VU Xl HS;go_wp2_with fail
    refine(ay wg m F4 lp 9 NC.out.mkr (by omega) (by omega)).mono ?_;rintro e wh ⟨TN,hkg,rfl,hmh,hvh⟩;have HG0:Hid (MS aeU Wf m F4 lp 1 fE BG 9 none 0 [] [] P4 wh.heap.size wh.heap.size wh):=hd0 ((NC.out.next hmh hvh).ms (X0.out 1 (by omega) (by omega)));generalize wh.heap.size=hG at HG0;clear hmh hvh NC;go_wp2_with fail
    go_loopw [13] (fun i wr=>∃(gs:List aeS) (A1:Option Addr) (c1:Nat) (cells:List Value) (top:Nat) (lp:Int),gs.length<=2+TN/\i= .int .i64 gs.length/\Hid (∀i g,gs[i]? =some g->afB i g)/\Hid (MS aeU Wf m F4 lp 1 fE BG 9 A1 c1 cells gs P4 hG top wr)) (fun i _=>2+TN - (intOf i).toNat)
    case atStart=>exact⟨[],none,0,[],hG,lp,nz _,rfl,hd0 (by simp),HG0⟩
    case round=>
     obtain⟨wi,rfl⟩:∃x,x=wr:=⟨_,rfl⟩
     obtain⟨gs,A1,c1,Wj,adV,oG,aeD,rfl,hog,HS⟩:=hrel;by_cases hlt3:gs.length<2+TN
     ·
      have hbn:=HS.out.bnd;go_wp2_with fail
      refine(NV wi m (dw F4 1 (.slice A1 gs.length c1)) oG gs.length gs.length A1 c1 hG Wj A6 rg.length c6 A7 fn.length c7 HS.out.mkr (dH _ _ _) ((aI (by decide)).trans QF.out) ((aI (by decide)).trans RI.out) HS.out.row (by omega) (by omega) (by omega) (by omega) (by omega) (by omega)).mono ?_;rintro e w3 ⟨g,nc,B,d,lp2,hgo,rfl,aX,ho3,hn3,hg3,hv3⟩;rw[Dl] at aX;have H3:=HS.out.aeT aX ho3 hn3 hg3 hv3;have H9:=hd0 H3;have aan:Hid (∀i g',(gs++[g])[i]? =some g'->afB i g'):=hd0 fun i g' hi=>by
       by_cases hil:i<gs.length
       ·rw[ag0 hil] at hi;exact hog.out i g' hi
       have hig:i=gs.length:=by have:=(agG.1 hi).1;simp at this;omega
       subst hig;rw[agZ (ai _),Nat.sub_self] at hi;simp only[agP,ag3] at hi;subst hi;exact hgo
      clear H3 aX ho3 hg3 hv3;go_wp2_with fail
      go_roundw
      case rel=>exact⟨gs++[g],B,d,_,_,lp2,by(rw[la];show gs.length+1<=2+TN;omega),by simp,aan,H9⟩
      case measure=>simp[intOf];omega
     obtain⟨P5,h5,FY,IB⟩:∃P5 h5,Hid (SG Wf m (dw F4 1 (.slice A1 gs.length c1)) oG P5 h5 wi)/\Hid (∀w,P5 w->P4 w/\Sl aeU 9 w (TR (fE::BG) (m+1) h5 w) A1 gs):=⟨_,_,hd0 (HS.out.sg aeU.ok (by omega)),hd0 fun w h=>h⟩
     obtain⟨F5,kG⟩:∃F,dw F4 1 (.slice A1 gs.length c1)=F:=⟨_,rfl⟩
     have CJ:Hid (F5 1= .slice A1 gs.length c1):=by rw[<-kG];exact hd0 (dH _ _ _)
     have Dk:Hid (F5 8= .slice A8 cv.length c8/\F5 7= .slice A7 fn.length c7/\F5 6= .slice A6 rg.length c6/\F5 5= .slice A5 xs.length c5/\F5 0= .int .i64 u):=by rw[<-kG];exact hd0 ⟨(aI (by decide)).trans Xp.out,(aI (by decide)).trans RI.out,(aI (by decide)).trans QF.out,(aI (by decide)).trans XL.out,(aI (by decide)).trans Zb.out⟩
     have Ui:Hid (∀i,2<=i->i<5->F5 i= .slice none 0 0):=by rw[<-kG];exact hd0 fun i hi h5=>(aI (by omega)).trans (X0.out i (by omega) h5)
     rw[kG] at FY;have Ry:gs.length<=10:=by omega
     have hg2:2<=gs.length:=by omega
     have aek:=FY.out.mkr.lt;clear kG X0 Zb XL QF RI Xp HS;go_wp2_with fail
     refine(Q8 wi).mono ?_;rintro e wj ⟨rfl,Uz⟩;have hbj:Bk wj wi.heap.size aF #[.int .i64 97,.int .i64 98,.int .i64 99,.int .i64 102,.int .i64 105,.int .i64 108,.int .i64 57345,.int .i64 57346,.int .i64 57601,.int .i64 57602,.int .i64 57603,.int .i64 57857,.int .i64 57861,.int .i64 58113,.int .i64 58114,.int .i64 58369]:=by rw[Uz];exact Bk.new _ _ _
     have hzj:wj.heap.size=wi.heap.size+1:=by rw[Uz];simp
     have hsj:SG Wf m F5 oG P5 h5 wj:=by rw[Uz];exact FY.out.below ((agE _ _).alloc (ai _) _)
     have hh5:=FY.out.fz.top;obtain⟨rb,hrb⟩:∃rb,wi.heap.size=rb:=⟨_,rfl⟩
     rw[hrb] at hbj hzj hh5 ⊢;have Em:=hsj.more (Q:=fun w=>Bk w rb aF #[.int .i64 97,.int .i64 98,.int .i64 99,.int .i64 102,.int .i64 105,.int .i64 108,.int .i64 57345,.int .i64 57346,.int .i64 57601,.int .i64 57602,.int .i64 57603,.int .i64 57857,.int .i64 57861,.int .i64 58113,.int .i64 58114,.int .i64 58369]) (hi2:=wj.heap.size) (by omega) (ai _) hbj (fun w w' hq he=>(he rb (by omega) (by omega)).trans hq);have NJ:Hid (MS afb Wf m F5 oG 2 I4 [] 2 none 0 [] [] (fun w=>P5 w/\Bk w rb aF #[.int .i64 97,.int .i64 98,.int .i64 99,.int .i64 102,.int .i64 105,.int .i64 108,.int .i64 57345,.int .i64 57346,.int .i64 57601,.int .i64 57602,.int .i64 57603,.int .i64 57857,.int .i64 57861,.int .i64 58113,.int .i64 58114,.int .i64 58369]) wj.heap.size wj.heap.size wj):=hd0 (Em.ms (Ui.out 2 (by omega) (by omega)));generalize wj.heap.size=hJ at NJ;clear hbj hsj Em Uz FY;go_wp2_with fail
     go_loopw [15] (fun i wr=>∃(k:Nat) (ch:List Chr) (A2:Option Addr) (c2:Nat) (cells:List Value) (top:Nat),k<=16/\i= .int .i64 k/\ch.length<=k/\Hid (∀c∈ch,N9 c.rune/\In gs.length c.aeT)/\Hid (MS afb Wf m F5 oG 2 I4 [] 2 A2 c2 cells ch (fun w=>P5 w/\Bk w rb aF #[.int .i64 97,.int .i64 98,.int .i64 99,.int .i64 102,.int .i64 105,.int .i64 108,.int .i64 57345,.int .i64 57346,.int .i64 57601,.int .i64 57602,.int .i64 57603,.int .i64 57857,.int .i64 57861,.int .i64 58113,.int .i64 58114,.int .i64 58369]) hJ top wr)) (fun i _=>16 - (intOf i).toNat)
     case atStart=>exact⟨0,[],none,0,[],hJ,nz _,rfl,nz _,hd0 (by simp),NJ⟩
     case round=>
      obtain⟨wk,rfl⟩:∃x,x=wr:=⟨_,rfl⟩
      obtain⟨k,ch,A2,c2,cells2,oM,ad9,rfl,hch,hoc,HS⟩:=hrel;by_cases hlt4:k<16
      ·
       go_wp2_with fail
       refine(ay wk m (dw F5 2 (.slice A2 ch.length c2)) oG 4 HS.out.mkr (by omega) (by omega)).mono ?_;rintro e wl ⟨y,hy,rfl,hml,hvl⟩;have HL:=hd0 (HS.out.next afb.ok (by decide) hml hvl);clear hml hvl HS;by_cases hy0:0<y
       ·have ey:decide ((0:Int)<y)=true:=by simp;omega
        obtain⟨ru,Uw,TZ⟩:=Vz k hlt4;have x4:wl.cell? ⟨m,4,none⟩=some (.slice A2 ch.length c2):=HL.out.cell (by omega);have x3:wl.drew.cell? ⟨m,3,none⟩=some (.slice A1 gs.length c1):=HL.out.mkr.at' 1 (by omega) ((aI (by decide)).trans CJ.out);have xr:wl.drew.cell? ⟨rb,k,none⟩=some (.int .i64 ru):=(HL.out.fz.now.2.cell k).trans Uw;have zml:=HL.out.mkr.lt;have zrl:=HL.out.fz.now.2.lt;have sh:=SH.out;have bH:True:=trivial;go_wp2_with fail
        rw[show Op.load 25 (Operand.tmp 176)=Zh from rfl]
        go_region_held3 (fun w'=>w'.cell? ⟨m,3,none⟩=some (.slice A1 gs.length c1)/\w'.cell? ⟨rb,k,none⟩=some (.int .i64 ru))
         (first
          |with_reducible exact⟨x3,xr⟩
          |with_reducible exact⟨rJ,KJ⟩
          |with_reducible exact⟨Ut _ rJ,Ut _ KJ⟩
          |with_reducible exact⟨x39,xr9⟩
          |with_reducible exact⟨x3s,xrs⟩
          |go_keep)
         (first
          |(go_at_call 36;have _t:=bH;refine(ay _ m (dw F5 2 (.slice A2 ch.length c2)) oG gs.length (by exact HL.out.mkr) (by omega) (by omega)).mono ?_;rintro e w3 ⟨x,hx,rfl,aX,hv3⟩;have H3:=(HL.out.drew afb.ok).next afb.ok (by decide) aX hv3;have x43:w3.cell? ⟨m,4,none⟩=some (.slice A2 ch.length c2):=H3.cell (by omega);have rJ:w3.cell? ⟨m,3,none⟩=some (.slice A1 gs.length c1):=H3.mkr.at' 1 (by omega) ((aI (by decide)).trans CJ.out);have KJ:w3.cell? ⟨rb,k,none⟩=some (.int .i64 ru):=(H3.fz.now.2.cell k).trans Uw;have Oz:=H3.mkr.lt;obtain⟨B,d,w9,hrun,x9,y9,z9,s9,h9⟩:=H3.agm afb.ok (by omega) Ha (by decide) (by decide) (n:=ch.length) rfl (by omega) ⟨ru,(x:Int)⟩ #[.int .i64 ru,.int .i64 x] rfl (by simp[Value.oneCell']) ⟨rfl,je TZ,(show I64 (x:Int) from⟨by omega,by omega⟩)⟩;have x3s:(w9.setCell ⟨m,4,none⟩ (.slice B (ch.length+1) d)).cell? ⟨m,3,none⟩=some (.slice A1 gs.length c1):=h9.mkr.at' 1 (by omega) ((aI (by decide)).trans CJ.out);have xrs:(w9.setCell ⟨m,4,none⟩ (.slice B (ch.length+1) d)).cell? ⟨rb,k,none⟩=some (.int .i64 ru):=(h9.fz.now.2.cell k).trans Uw;have x39:w9.cell? ⟨m,3,none⟩=some (.slice A1 gs.length c1):=(s9.mk H3.mkr (by decide)).at' 1 (by omega) ((aI (by decide)).trans CJ.out);have xr9:w9.cell? ⟨rb,k,none⟩=some (.int .i64 ru):=((s9.bk H3.fz.now.2 (by decide)).cell k).trans Uw;have H9:=hd0 h9;clear _t bH H3 h9 aX hv3 s9))
        all_goals
         have acf:Hid (∀c∈ch++[(⟨ru,(x:Int)⟩:Chr)],N9 c.rune/\In gs.length c.aeT):=hd0 fun c hc=>by
          rw[agJ,agF] at hc;rcases hc with hc|rfl
          ·exact hoc.out c hc
          exact⟨TZ,show(0:Int)<=x by omega,show(x:Int)<gs.length by omega⟩
         clear hrun x9 y9 z9 x43 rJ KJ x3s xrs x39 xr9 Oz sh x3 xr x4;go_wp2_with fail
         go_roundw
         case rel=>exact⟨k+1,ch++[(⟨ru,(x:Int)⟩:Chr)],B,d,_,_,by omega,by simp,by(rw[la];show ch.length+1<=k+1;omega),acf,H9⟩
         case measure=>simp[intOf];omega
       have ey:decide ((0:Int)<y)=false:=by simp;omega
       go_wp2_with fail
       go_roundw
       case rel=>exact⟨k+1,ch,A2,c2,cells2,oM,by omega,by simp,by omega,hoc,HL⟩
       case measure=>simp[intOf];omega
      have hk2:ch.length<=16:=by omega
      obtain⟨P6,h6,uP,tu⟩:∃P6 h6,Hid (SG Wf m (dw F5 2 (.slice A2 ch.length c2)) oG P6 h6 wk)/\Hid (∀w,P6 w->P5 w/\Sl afb 2 w (TR [I4] (m+1) h6 w) A2 ch):=⟨_,_,hd0 (HS.out.sg afb.ok (by omega)),hd0 fun w h=>⟨h.1.1,h.2⟩⟩
      obtain⟨F6,OC⟩:∃F,dw F5 2 (.slice A2 ch.length c2)=F:=⟨_,rfl⟩
      have RH:Hid (F6 1= .slice A1 gs.length c1):=by rw[<-OC];exact hd0 ((aI (by decide)).trans CJ.out)
      have zS:Hid (F6 2= .slice A2 ch.length c2/\F6 8= .slice A8 cv.length c8/\F6 7= .slice A7 fn.length c7/\F6 6= .slice A6 rg.length c6/\F6 5= .slice A5 xs.length c5/\F6 0= .int .i64 u):=by rw[<-OC];exact hd0 ⟨dH _ _ _,(aI (by decide)).trans Dk.out.1,(aI (by decide)).trans Dk.out.2.1,(aI (by decide)).trans Dk.out.2.2.1,(aI (by decide)).trans Dk.out.2.2.2.1,(aI (by decide)).trans Dk.out.2.2.2.2⟩
      have Xq:Hid (F6 3= .slice none 0 0/\F6 4= .slice none 0 0):=by rw[<-OC];exact hd0 ⟨(aI (by decide)).trans (Ui.out 3 (by omega) (by omega)),(aI (by decide)).trans (Ui.out 4 (by omega) (by omega))⟩
      rw[OC] at uP;clear OC Ui CJ Dk HS;go_wp2_with fail
      refine(L6 wk m F6 oG gs.length A1 c1 uP.out.mkr RH.out Xq.out.1 (by omega) (by omega)).mono ?_;rintro e wl ⟨ls,A3,c3,hls,hl6,rfl,hml,hsl,hvl⟩;have YP:SG Wf m (dw F6 3 (.slice A3 ls.length c3)) oG P6 h6 wl:=⟨hml,uP.out.fz.next (by omega) hvl,rQ uP.out.low uP.out.bnd.1 hvl,uP.out.bnd⟩
      have hzl:=hvl.size;have hh6:=uP.out.fz.top;have hmk:=uP.out.mkr.lt;have hsl2:Sl aeV 3 wl (TR (fD::En) (m+1) wl.heap.size wl) A3 ls:=hsl.mono aeV.ok (TR.sub (fun _ h=>h) (by omega) (ai _));obtain⟨P7,h7,IL,BM⟩:∃P7 h7,Hid (SG Wf m (dw F6 3 (.slice A3 ls.length c3)) oG P7 h7 wl)/\Hid (∀w,P7 w->P6 w/\Sl aeV 3 w (TR (fD::En) (m+1) h7 w) A3 ls):=⟨_,_,hd0 (YP.more (Q:=fun w=>Sl aeV 3 w (TR (fD::En) (m+1) wl.heap.size w) A3 ls) (by omega) (ai _) hsl2 (fun w w' hq he=>hq.moved aeV.ok (TR.eqb he))),hd0 fun w h=>h⟩
      obtain⟨F7,kV⟩:∃F,dw F6 3 (.slice A3 ls.length c3)=F:=⟨_,rfl⟩
      have vN:Hid (F7 3= .slice A3 ls.length c3/\F7 1= .slice A1 gs.length c1/\F7 2= .slice A2 ch.length c2/\F7 8= .slice A8 cv.length c8/\F7 7= .slice A7 fn.length c7/\F7 6= .slice A6 rg.length c6/\F7 5= .slice A5 xs.length c5/\F7 0= .int .i64 u):=by rw[<-kV];exact hd0 ⟨dH _ _ _,(aI (by decide)).trans RH.out,(aI (by decide)).trans zS.out.1,(aI (by decide)).trans zS.out.2.1,(aI (by decide)).trans zS.out.2.2.1,(aI (by decide)).trans zS.out.2.2.2.1,(aI (by decide)).trans zS.out.2.2.2.2.1,(aI (by decide)).trans zS.out.2.2.2.2.2⟩
      have VN:F7 4= .slice none 0 0:=by rw[<-kV];exact(aI (by decide)).trans Xq.out.2
      rw[kV] at IL;have HLS:=hd0 hls;clear kV Xq RH zS uP hml hsl hsl2 YP hvl hls;go_wp2_with fail
      refine(PT wl).mono ?_;rintro e wn ⟨rfl,hwn⟩;have hbn:Bk wn wl.heap.size 9 uV:=by rw[hwn];exact Bk.new _ _ _
      have hzn:wn.heap.size=wl.heap.size+1:=by rw[hwn];simp
      have hsn:SG Wf m F7 oG P7 h7 wn:=by rw[hwn];exact IL.out.below ((agE _ _).alloc (ai _) _)
      have hh7:=IL.out.fz.top;have ab2:=IL.out.mkr.lt;obtain⟨nb,hnb⟩:∃nb,wl.heap.size=nb:=⟨_,rfl⟩
      rw[hnb] at hbn hzn hh7 ab2 ⊢;have Em:=hsn.more (Q:=fun w=>Bk w nb 9 uV) (hi2:=wn.heap.size) (by omega) (ai _) hbn (fun w w' hq he=>(he nb (by omega) (by omega)).trans hq);have HE0:Hid (MS aeW Wf m F7 oG 4 vC [aF] 2 none 0 [] [] (fun w=>P7 w/\Bk w nb 9 uV) wn.heap.size wn.heap.size wn):=hd0 (Em.ms VN);generalize wn.heap.size=hE at HE0;clear hbn hsn Em hwn IL VN;go_wp2_with fail
      go_loopw [17] (fun i wr=>∃(k:Nat) (ft:List afd) (A4:Option Addr) (c4:Nat) (cells:List Value) (top:Nat),k<=8/\i= .int .i64 k/\ft.length<=k/\Hid (∀x∈ft,(nameB x.name=true/\∀n∈x.aeO,N9 n)/\x.aeO.length<=6)/\Hid (MS aeW Wf m F7 oG 4 vC [aF] 2 A4 c4 cells ft (fun w=>P7 w/\Bk w nb 9 uV) hE top wr)) (fun i _=>8 - (intOf i).toNat)
      case atStart=>exact⟨0,[],none,0,[],hE,nz _,rfl,nz _,hd0 (by simp),HE0⟩
      case round=>
       obtain⟨wo,rfl⟩:∃x,x=wr:=⟨_,rfl⟩
       obtain⟨k,ft,A4,c4,cells4,ac5,hk8,rfl,hft,hoe,HS⟩:=hrel;by_cases IY:k<8
       ·
        have HS0:=hd0 (HS.out.afK aeW.ok HS.out.bnd.2.2.2 (ai _));have ad2:wo.heap.size<=wo.heap.size:=ai _;have hEz:=HS.out.bnd.2.2;clear HS;go_wp2_with fail
        have L8:=hd0 IY;clear IY
        rename ((k:Int)<8)=>hbr
        clear hbr;go_loopw [18,19] (fun rv i wr=>∃(q:Nat) (row:List Int) (Ar:Option Addr) (cr:Nat),q<=ls.length/\i= .int .i64 q/\rv= .slice Ar row.length cr/\row.length<=q/\Hid (∀n∈row,N9 n)/\Hid (MS aeW Wf m F7 oG 4 vC [aF] 2 A4 c4 cells4 ft (fun w=>P7 w/\Bk w nb 9 uV) hE wo.heap.size wr)/\Hid (wr.ownsRow wo.heap.size aF 1 (.slice Ar row.length cr) row.length (aN row))) (fun _ i _=>ls.length - (intOf i).toNat)
        case atStart=>exact⟨0,[],none,0,nz _,rfl,rfl,nz _,hd0 (by simp),HS0,hd0 (World.ownsRow_nil _ _ _ _)⟩
        case round=>
         obtain⟨wq,rfl⟩:∃x,x=wr:=⟨_,rfl⟩
         obtain⟨q,row,Ar,cr,hq,rfl,rfl,hrq,hor,HM,HO⟩:=hrel;have x5:wq.cell? ⟨m,5,none⟩=some (.slice A3 ls.length c3):=HM.out.mkr.at' 3 (by omega) ((aI (by decide)).trans vN.out.1);by_cases hlt6:q<ls.length
         ·go_wp2_with fail
          refine(ay wq m (dw F7 4 (.slice A4 ft.length c4)) oG 3 HM.out.mkr (by omega) (by omega)).mono ?_;rintro e wr2 ⟨x,hx,rfl,hm2,hv2⟩;have BQ:=hd0 ((Sp.next HM.out.mkr hv2).own HO.out (by decide));have pX:=hd0 (HM.out.next aeW.ok (by decide) hm2 hv2);clear hm2 hv2 x5;by_cases hx0:x=0
          ·have e0:((x:Int)==0)=true:=by simp;omega
           have aaP:=pX.out.bnd.2.2.2;clear hx0;go_wp2_with (at_builtin;refine wR ku rfl (.tmp 218) (.tmp 220) rfl wr2 wr2.heap.size rfl wo.heap.size row.length cr Ar (aN row) #[.int .i64 q] rfl rfl rfl BQ.out (by simp[Value.oneCell']) (by omega) aaP ?_;intro A9 c9 w5 h5 g5 l5;have rP:=hd0 h5;have rY:=hd0 g5;clear h5 g5 l5)
           have Hl:=hd0 (pX.out.push aeW.ok BQ.out (ai _) rY.out (by decide) (by decide));have Gn:Hid (w5.ownsRow wo.heap.size aF 1 (.slice A9 (row++[(q:Int)]).length c9) (row++[(q:Int)]).length (aN (row++[(q:Int)]))):=hd0 (by simpa [aN,cI] using rP.out);have hor2:Hid (∀n∈row++[(q:Int)],N9 n):=hd0 fun z hz=>by
            rw[agJ,agF] at hz;rcases hz with hz|rfl
            ·exact hor.out z hz
            unfold N9;omega
           go_roundw
           case rel=>exact⟨q+1,row++[(q:Int)],A9,c9,by omega,by simp,by simp,by(rw[la];show row.length+1<=q+1;omega),hor2,Hl,Gn⟩
           case measure=>simp[intOf];omega
          have e0:((x:Int)==0)=false:=by simp;omega
          clear hx0;go_wp2_with fail
          go_roundw
          case rel=>exact⟨q+1,row,Ar,cr,by omega,by simp,rfl,by omega,hor,pX,BQ⟩
          case measure=>simp[intOf];omega
         go_wp2_with fail
         refine(ay wq m (dw F7 4 (.slice A4 ft.length c4)) oG 2 HM.out.mkr (by omega) (by omega)).mono ?_;rintro e wr2 ⟨x,hx,rfl,hm2,hv2⟩;have BQ:=hd0 ((Sp.next HM.out.mkr hv2).own HO.out (by decide));have pX:=hd0 (HM.out.next aeW.ok (by decide) hm2 hv2);clear hm2 hv2 x5;by_cases hx0:x=0
         ·have e0:((x:Int)==0)=true:=by simp;omega
          have IY:=L8.out;obtain⟨nm,enm,hnm⟩:=UK k IY;have x6:wr2.cell? ⟨m,6,none⟩=some (.slice A4 ft.length c4):=pX.out.cell (by omega);have xn:wr2.cell? ⟨nb,k,none⟩=some (.string ⟨nm.toArray⟩):=(pX.out.fz.now.2.cell k).trans enm;have zm2:=pX.out.mkr.lt;have zn2:=pX.out.fz.now.2.lt;have sf:=SF.out;have OV:aeW wr2.drew (TR [aF] hE wr2.drew.heap.size wr2.drew) [.string ⟨nm.toArray⟩,.slice Ar row.length cr] ⟨nm,row⟩:=⟨Ar,cr,rfl,uD (lo:=hE) (show wr2.drew.ownsRow wo.heap.size aF 1 (.slice Ar row.length cr) row.length (aN row) from BQ.out) (iF _ _ row (fun n hn=>je (hor.out n hn))) (by simp) (by omega) (by omega)⟩
          obtain⟨B,d,w9,hrun,x9,y9,z9,h9⟩:=(pX.out.drew aeW.ok).more aeW.ok (by omega) I8 (by decide) (by decide) (n:=ft.length) rfl (by omega) ⟨nm,row⟩ #[.string ⟨nm.toArray⟩,.slice Ar row.length cr] rfl (by simp[Value.oneCell']) OV;have LC:(Builtin.append_ #[27,27] 27 #[.slice A4 ft.length c4,.slice (some ⟨wr2.heap.size,0,none⟩) 1 1]).run Tryd.prog (wr2.alloc (.cells #[.string ⟨nm.toArray⟩,.slice Ar row.length cr] vC)).drew= .ok (.slice B (ft.length+1) d) w9:=hrun;have H9:=hd0 h9;have abg:Hid (∀x∈ft++[(⟨nm,row⟩:afd)],(nameB x.name=true/\∀n∈x.aeO,N9 n)/\x.aeO.length<=6):=hd0 fun z hz=>by
           rw[agJ,agF] at hz;rcases hz with hz|rfl
           ·exact hoe.out z hz
           exact⟨⟨hnm,hor.out⟩,show row.length<=6 by omega⟩
          clear h9 hrun OV hx0;go_wp2_with fail
          go_region
          all_goals
           go_wp2_with fail
           go_roundw
           case rel=>exact⟨k+1,ft++[(⟨nm,row⟩:afd)],B,d,_,_,by omega,by simp,by(rw[la];show ft.length+1<=k+1;omega),abg,H9⟩
           case measure=>simp[intOf];omega
         have e0:((x:Int)==0)=false:=by simp;omega
         clear hx0;go_wp2_with fail
         have IY:=L8.out;go_roundw
         case rel=>exact⟨k+1,ft,A4,c4,cells4,_,(show k+1<=8 from L8.out),by simp,by omega,hoe,pX⟩
         case measure=>simp[intOf];omega
       have abI:ft.length<=8:=by omega
       obtain⟨P8,h8,qE,vW⟩:∃P8 h8,Hid (SG Wf m (dw F7 4 (.slice A4 ft.length c4)) oG P8 h8 wo)/\Hid (∀w,P8 w->P7 w/\Sl aeW 2 w (TR [vC,aF] (m+1) h8 w) A4 ft):=⟨_,_,hd0 (HS.out.sg aeW.ok (by omega)),hd0 fun w h=>⟨h.1.1,h.2⟩⟩
       clear HS;have y2:wo.cell? ⟨m,2,none⟩=some (.int .i64 u):=qE.out.mkr.at' 0 (by omega) ((aI (by decide)).trans vN.out.2.2.2.2.2.2.2);have y3:wo.cell? ⟨m,3,none⟩=some (.slice A1 gs.length c1):=qE.out.mkr.at' 1 (by omega) ((aI (by decide)).trans vN.out.2.1);have y4:wo.cell? ⟨m,4,none⟩=some (.slice A2 ch.length c2):=qE.out.mkr.at' 2 (by omega) ((aI (by decide)).trans vN.out.2.2.1);have y5:wo.cell? ⟨m,5,none⟩=some (.slice A3 ls.length c3):=qE.out.mkr.at' 3 (by omega) ((aI (by decide)).trans vN.out.1);have y6:wo.cell? ⟨m,6,none⟩=some (.slice A4 ft.length c4):=qE.out.mkr.at' 4 (by omega) (dH _ _ _);have y7:wo.cell? ⟨m,7,none⟩=some (.slice A5 xs.length c5):=qE.out.mkr.at' 5 (by omega) ((aI (by decide)).trans vN.out.2.2.2.2.2.2.1);have y8:wo.cell? ⟨m,8,none⟩=some (.slice A6 rg.length c6):=qE.out.mkr.at' 6 (by omega) ((aI (by decide)).trans vN.out.2.2.2.2.2.1);have y9:wo.cell? ⟨m,9,none⟩=some (.slice A7 fn.length c7):=qE.out.mkr.at' 7 (by omega) ((aI (by decide)).trans vN.out.2.2.2.2.1);have y10:wo.cell? ⟨m,10,none⟩=some (.slice A8 cv.length c8):=qE.out.mkr.at' 8 (by omega) ((aI (by decide)).trans vN.out.2.2.2.1);have hlow:=qE.out.low;have Es:Bk wo w.heap.size eH zeroFn:=(hlow.block _ (by omega)).trans BF.out;have hst:=run_storeVar_row (P:=Tryd.prog) wo w.heap.size eH eH zeroFn #[.int .i64 u,.slice A1 gs.length c1,.slice A2 ch.length c2,.slice A3 ls.length c3,.slice A4 ft.length c4,.slice A5 xs.length c5,.slice A6 rg.length c6,.slice A7 fn.length c7,.slice A8 cv.length c8] Es (by rw[tZ];rfl) rfl (by simp[Value.oneCell']);have jm:=setRow_heap wo w.heap.size zeroFn #[.int .i64 u,.slice A1 gs.length c1,.slice A2 ch.length c2,.slice A3 ls.length c3,.slice A4 ft.length c4,.slice A5 xs.length c5,.slice A6 rg.length c6,.slice A7 fn.length c7,.slice A8 cv.length c8] eH (0,0) Es;have heq:∀b,b≠w.heap.size->(wo.setRow w.heap.size #[.int .i64 u,.slice A1 gs.length c1,.slice A2 ch.length c2,.slice A3 ls.length c3,.slice A4 ft.length c4,.slice A5 xs.length c5,.slice A6 rg.length c6,.slice A7 fn.length c7,.slice A8 cv.length c8]).heap[b]? =wo.heap[b]? :=fun b hb=>setRow_other wo w.heap.size b _ hb
       have p8:=qE.out.fz.keep _ (wo.setRow w.heap.size #[.int .i64 u,.slice A1 gs.length c1,.slice A2 ch.length c2,.slice A3 ls.length c3,.slice A4 ft.length c4,.slice A5 xs.length c5,.slice A6 rg.length c6,.slice A7 fn.length c7,.slice A8 cv.length c8]) qE.out.fz.now (fun b h1 h2=>heq b (by omega));have hbw:Below w.heap.size w (wo.setRow w.heap.size #[.int .i64 u,.slice A1 gs.length c1,.slice A2 ch.length c2,.slice A3 ls.length c3,.slice A4 ft.length c4,.slice A5 xs.length c5,.slice A6 rg.length c6,.slice A7 fn.length c7,.slice A8 cv.length c8]):=(LF.out.trans (hlow.mono (by omega))).trans ⟨rfl,rfl,rfl,by simp,fun b hb=>heq b (by omega)⟩;generalize hwE:wo.setRow w.heap.size #[.int .i64 u,.slice A1 gs.length c1,.slice A2 ch.length c2,.slice A3 ls.length c3,.slice A4 ft.length c4,.slice A5 xs.length c5,.slice A6 rg.length c6,.slice A7 fn.length c7,.slice A8 cv.length c8]=wE at hst jm p8 hbw;clear hwE heq;obtain⟨p7,s8⟩:=vW.out wE p8;obtain⟨p6,s7⟩:=BM.out wE p7;obtain⟨p5,s6⟩:=tu.out wE p6;obtain⟨p4,s5⟩:=IB.out wE p5;obtain⟨p3,s4⟩:=BI.out wE p4;obtain⟨p2,s3⟩:=Oe.out wE p3;obtain⟨p1,s2⟩:=HP2.out wE p2;have s1:=HP1.out wE p1;have hpost:vK w (.returned (.agg #[.int .i64 u,.slice A1 gs.length c1,.slice A2 ch.length c2,.slice A3 ls.length c3,.slice A4 ft.length c4,.slice A5 xs.length c5,.slice A6 rg.length c6,.slice A7 fn.length c7,.slice A8 cv.length c8])) wE:=by refine⟨⟨u,gs,ch,ls,ft,xs,rg,fn,cv⟩,[.int .i64 u,.slice A1 gs.length c1,.slice A2 ch.length c2,.slice A3 ls.length c3,.slice A4 ft.length c4,.slice A5 xs.length c5,.slice A6 rg.length c6,.slice A7 fn.length c7,.slice A8 cv.length c8],UW hu9 ⟨hox.out,HXS.out⟩ Uc.out ⟨hov.out,aas⟩ ⟨hof.out,hfn2⟩ ⟨hog.out,hg2,Ry⟩ ⟨hoc.out,hk2⟩ ⟨HLS.out,hl6⟩ ⟨hoe.out,abI⟩,rfl,?_,hbw⟩;exact⟨A1,c1,A2,c2,A3,c3,A4,c4,A5,c5,A6,c6,A7,c7,A8,c8,rfl,je hu9,s5.mono aeU.ok (TR.tf (by decide)),s6.mono afb.ok (TR.tf (by decide)),s7.mono aeV.ok (TR.tf (by decide)),s8.mono aeW.ok (TR.tf (by decide)),s1.mono ae2.ok (TR.tf (by decide)),s2.mono aeY.ok (TR.tf (by decide)),s3.mono ae1.ok (TR.tf (by decide)),s4.mono aeQ.ok (TR.tf (by decide))⟩
       have BO:=hd0 hpost;have YU:=hd0 jm;clear hpost jm s1 s2 s3 s4 s5 s6 s7 s8 p1 p2 p3 p4 p5 p6 p7 p8 hbw Es hlow;go_wp2_with fail
       exact bodyPost_ret (GG YU.out rfl) rfl BO.out
end Go.Proofs.YtkijckccfookeaaDoor
