/- Lemmas. -/
import Derived.Test.YtalehhjjbadlpaaGreatDoorMkGl
import Derived.Test.YtalehhjjbadlpaaGreatDoorMkAx
import Derived.Test.YtalehhjjbadlpaaGreatDoorX19
set_option linter.all false
set_option maxRecDepth 100000
set_option maxHeartbeats 32000000
namespace Go.Proofs.YtalehhjjbadlpaaGreatDoor
open Go.RowKit
variable{w:World}(v:World){f:Nat}
section
attribute [-go_sem] Builtin.append_
abbrev gI:TypeId:=32
abbrev kR:TypeId:=77
abbrev sK:TypeId:=80
abbrev Ik:TypeId:=50
abbrev UK:TypeId:=62
abbrev DX:TypeId:=73
theorem OA (t:TypeId)(h:(Tryz.prog.info? t).map (·.size)=some 1)(w:World):(sizeOf t).run Tryz.prog w=.ok 1 w:=by obtain⟨i,hi,a⟩:=Option.map_eq_some_iff.1 h;simp[sizeOf,typeInfo,hi,a]
theorem bG (t:TypeId)(h:(Tryz.prog.info? t).map (·.size)=some 1)(A:Option Addr)(n c:Nat)(a:Addr)(w:World):(storeVar t a (A n c)).run Tryz.prog w=(store a (A n c)).run Tryz.prog w:=by
 have b:=OA t h
 go_simp
theorem MO (t:TypeId)(h:(Tryz.prog.info? t).map (·.size)=some 1)(k:IntKind)(z:Int)(a:Addr)(w:World):(storeVar t a (.int k z)).run Tryz.prog w=(store a (.int k z)).run Tryz.prog w:=by
 have b:=OA t h
 go_simp
attribute [-go_sem] storeVar
theorem Im:Calls Tryz.prog 32 #[] v λe a=>e=.returned (.slice (v,0) 16 16)/\a=v.alloc (.cells #[.int .i64 97,.int .i64 98,.int .i64 99,.int .i64 102,.int .i64 105,.int .i64 108,.int .i64 57345,.int .i64 57346,.int .i64 57601,.int .i64 57602,.int .i64 57603,.int .i64 57857,.int .i64 57861,.int .i64 58113,.int .i64 58114,.int .i64 58369] aK):=by
 go_enter Tryz.func32,Tryz.ntmps32
 go_wp2;go_ret
 exact⟨rfl,rfl⟩
def T9:List B:=[[108,105,103,97],[105,115,111,108],[105,110,105,116],[109,101,100,105],[102,105,110,97],[107,101,114,110],[109,97,114,107],[99,97,108,116]]
def Dk:Array Value:=(T9.map λ(s:B)=>Value.string s).toArray
theorem CN:Calls Tryz.prog 34 #[] v λe a=>e=.returned (.slice (v,0) 8 8)/\a=v.alloc (.cells Dk 9):=by
 go_enter Tryz.func34,Tryz.ntmps34
 go_wp2;go_ret
 exact⟨rfl,rfl⟩
def i':Array Value:= #[.int .i64 0,(),(),(),(),(),(),(),()]
def Zx (t:mC):List Value:=[.int .i64 t.start,.int .i64 t.jx,.int .i64 t.jz]
def UM (l:List mC):List Value:=l.flatMap Zx
theorem Mm (S:Bs)(l:List mC)(h:∀x∈l,gN x.start/\gN x.jx/\gN x.jz):Fl oT 3 v S (UM l) l:=wG v S Zx l (λ_ _=>rfl) (λx a=>⟨rfl,h x a⟩)
theorem MS.z {F:Nat->Value}{O k:Int}{N:Option Addr}{c1:Nat}{cells:List Value}{M:List hU}{P:World->Prop}{hi m:Nat}{wr w2:World}{g:hU}{q:List Value}{B:Option Addr}{d:Nat}(h:MS iA w f F O 1 jb MQ 9 N c1 cells M P hi m wr)(Wf:Mk w2 f (eP F 1 (B (M.length+1) d)) k)(y:w2.ownsRow hi jb 9 (B (M.length+1) d) (M.length+1) (cells++q))(z:q.length=9)(C:iA w2 (TR [CE,aK,xu,xg,oQ,qj] wr.heap.size w2.heap.size w2) q g)(j:sb f (Value.slice N M.length c1).ownBlock wr w2):
  MS iA w f F k 1 jb MQ 9 B d (cells++q) (M++[g]) P hi w2.heap.size w2:=by
 obtain⟨D,E,L,K⟩:=h.g;have G:=j.size;have v:(M++[g]).length=M.length+1:=by simp
 have l:∀x,(Value.slice N M.length c1).ownBlock=some x->hi<=x:=λx H=>(h.row.lt x H).1
 refine⟨by rw[v];exact Wf,by rw[v];exact y,?_,j.fz (by omega) l h.fz,?_,D,E,by omega,ae _⟩
 .have n:∀b,TR MQ hi m wr b->w2.heap[b]?=wr.heap[b]? :=λb ⟨o,r,t,p,a⟩=>j.block b p.lt (by omega) (λe=>by
   obtain⟨I,s⟩:=iI h.row b e;have:=(dw s p).1;subst this;exact absurd a (by decide))
  have o:Fl iA 9 w2 (TR MQ hi m w2) cells M:=h.V.C iA.ok ⟨n,λb s=>by
   obtain⟨o,r,t,p,a⟩:=s;exact⟨o,r,t,(n b ⟨o,r,t,p,a⟩).trans p,a⟩⟩
  exact(o.mono iA.ok (TR.sub (λ_ h=>h) (ae _) (by omega))).append (Fl.one (iA.ok.mono C (TR.sub (λ_ h=>h) (by omega) (ae _))) z)
 exact⟨j.os.trans h.low.os,j.tape.trans h.low.tape,j.output.trans h.low.output,nt h.low.size G,λi u=>(j.block i (by have:=h.low.size;omega) (by omega) (λe=>by have:=l i e;omega)).trans (h.low.block i u)⟩
structure TG (Wf:World)(m:Nat)(F:Nat->Value)(P:World->Prop)(hB rb:Nat)(A6:Option Addr)(c6:Nat)(cells:List Value)(rg:List Region)(ts:List mC)(A:Option Addr)(c:Nat)(wr:World):Prop where
 ms:MS ko Wf m F 0 6 sK [kR] 1 A6 c6 cells rg P hB rb wr
 bk:Bk wr rb sK #[A ts.length c]
 row:wr.ownsRow (rb+1) kR 3 (A ts.length c) ts.length (UM ts)
 ne:∀x,(Value.slice A6 rg.length c6).ownBlock=some x->x≠rb
section
variable {Wf:World} {m:Nat} {F:Nat->Value} {P:World->Prop} {hB rb:Nat} {A6:Option Addr} {c6:Nat} {cells:List Value} {rg:List Region} {ts:List mC} {A:Option Addr} {c:Nat} {wr w2:World}
theorem TG.next (h:TG Wf m F P hB rb A6 c6 cells rg ts A c wr)(b:Mk w2 m (eP F 6 (A6 rg.length c6)) 0)(a:Mv m wr w2):TG Wf m F P hB rb A6 c6 cells rg ts A c w2:=⟨h.ms.next ko.ok (by decide) b a,(Sp.next h.ms.b a).bk h.bk (by decide),(Sp.next h.ms.b a).own h.row (by decide),h.ne⟩
theorem TG.below (h:TG Wf m F P hB rb A6 c6 cells rg ts A c wr)(a:Below wr wr w2):TG Wf m F P hB rb A6 c6 cells rg ts A c w2:=by have s:Sp m pU wr w2:=Sp.below a;exact⟨h.ms.below ko.ok a,s.bk h.bk (by decide),s.own h.row (by decide),h.ne⟩
theorem TG.drew (h:TG Wf m F P hB rb A6 c6 cells rg ts A c wr):TG Wf m F P hB rb A6 c6 cells rg ts A c wr.drew:=h.below (gD _ _).drew
theorem TG.alloc (h:TG Wf m F P hB rb A6 c6 cells rg ts A c wr)(o:Obj):TG Wf m F P hB rb A6 c6 cells rg ts A c (wr.alloc o):=h.below ((gD _ _).alloc (ae _) o)
theorem TG.more (h:TG Wf m F P hB rb A6 c6 cells rg ts A c wr)(r:ts.length<=1000)(f g i:Int):
  ∃B d a,(Builtin.append_ #[78,78] 78 #[A ts.length c,.slice (wr,0) 1 1]).run Tryz.prog (wr.alloc (.cells #[f,g,i] kR))=.ok (.slice B (ts.length+1) d) a/\
   a.cell? (rb,0)=some (A ts.length c)/\a.frozen? (rb,0)=false/\rb<a.heap.size/\TG Wf m F P hB rb A6 c6 cells rg (ts++[⟨f,g,i⟩]) B d (a.setCell (rb,0) (.slice B (ts.length+1) d)):=by
 have o:=h.bk.lt;obtain⟨t,u,v,w⟩:=h.ms.g;obtain⟨B,d,a,e,p,l,x⟩:=dJ zz 78 wr (rb+1) _ c A _ #[f,g,i] rfl h.row (by simp[Value.oneCell']) (by omega) (by omega);have s:Sp m kR wr a:=Sp.push h.row (by omega) l;have b:=s.bk h.bk (by decide);have j:=h.ms.push ko.ok h.row (by omega) l (by decide) (by decide);have q:a.grownBy (a.setCell (rb,0) (.slice B (ts.length+1) d)) (some rb):=aX (World.grownBy.refl _ _) (.inl rfl) _;have k:Sp m sK a (a.setCell (rb,0) (.slice B (ts.length+1) d)):=Sp.set b (by omega) 0 _;have n:(ts++[(⟨f,g,i⟩:mC)]).length=ts.length+1:=by simp
 refine⟨B,d,a,e,b.cell 0,b.frozen 0,b.lt,j.box ko.ok q (ae _) b h.ne (by decide),?_,?_,h.ne⟩
 .rw[n];exact b.set 0 _
 rw[n];have:=k.own p (by decide);simpa [UM,Zx]using this
end
theorem Xr (x:Nat)(h:x<5):∃a b c:Int,(#[.int .i64 0,.int .i64 64,.int .i64 64,.int .i64 0,.int .i64 32,.int .i64 64,.int .i64 (-64),.int .i64 (-64),.int .i64 0,.int .i64 (-1),.int .i64 0,.int .i64 5,.int .i64 10,.int .i64 32,.int .i64 50]:Array Value)[x*3]?=some (.int .i64 a)/\(#[.int .i64 0,.int .i64 64,.int .i64 64,.int .i64 0,.int .i64 32,.int .i64 64,.int .i64 (-64),.int .i64 (-64),.int .i64 0,.int .i64 (-1),.int .i64 0,.int .i64 5,.int .i64 10,.int .i64 32,.int .i64 50]:Array Value)[x*3+1]?=some (.int .i64 b)/\(#[.int .i64 0,.int .i64 64,.int .i64 64,.int .i64 0,.int .i64 32,.int .i64 64,.int .i64 (-64),.int .i64 (-64),.int .i64 0,.int .i64 (-1),.int .i64 0,.int .i64 5,.int .i64 10,.int .i64 32,.int .i64 50]:Array Value)[x*3+2]?=some (.int .i64 c)/\N9 a/\N9 b/\N9 c:=by
 have:x=0\/x=1\/x=2\/x=3\/x=4:=by omega
 unfold N9;rcases this with rfl|rfl|rfl|rfl|rfl<;>exact⟨_,_,_,rfl,rfl,rfl,by omega,by omega,by omega⟩
theorem Nn (k:Nat)(h:k<16):∃u:Int,(#[.int .i64 97,.int .i64 98,.int .i64 99,.int .i64 102,.int .i64 105,.int .i64 108,.int .i64 57345,.int .i64 57346,.int .i64 57601,.int .i64 57602,.int .i64 57603,.int .i64 57857,.int .i64 57861,.int .i64 58113,.int .i64 58114,.int .i64 58369]:Array Value)[k]?=some (.int .i64 u)/\N9 u:=by
 have:k=0\/k=1\/k=2\/k=3\/k=4\/k=5\/k=6\/k=7\/k=8\/k=9\/k=10\/k=11\/k=12\/k=13\/k=14\/k=15:=by omega
 unfold N9;rcases this with rfl|rfl|rfl|rfl|rfl|rfl|rfl|rfl|rfl|rfl|rfl|rfl|rfl|rfl|rfl|rfl<;>exact⟨_,rfl,by omega,by omega⟩
theorem Li (k:Nat)(h:k<8):∃s:B,Dk[k]?=some (.string s)/\hZ s=true:=by
 have:k=0\/k=1\/k=2\/k=3\/k=4\/k=5\/k=6\/k=7:=by omega
 rcases this with rfl|rfl|rfl|rfl|rfl|rfl|rfl|rfl<;>exact⟨_,rfl,by decide⟩
theorem zJ:(Tryz.prog.info? gI).map (·.size)=some 9:=by kernel_rfl
theorem Un {g:Array Value}{a:Array Value}(d:w.heap[f]?=some (.cells g gI (0,0)))(b:g.size=9)(e:a.getD 2 undef=.pointer (f,0):=by rfl):(results Tryz.f12 a).run Tryz.prog w=.ok (.agg g) w:=by rw[pM (fn:=Tryz.f12) (p:=2) (ty:=gI) rfl,e];have:=run_loadVar_row (P:=Tryz.prog) w f gI gI g (0,0) _ d Tryz.underlying32 rfl (by rw[zJ,b]);simp[asAddr,Result.andThen,this]
theorem NX (x:Nat)(h:x<4):∃u:Int,(#[.int .i64 1000,.int .i64 1024,.int .i64 100,.int .i64 2048]:Array Value)[x]?=some (.int .i64 u)/\N9 u:=by
 have:x=0\/x=1\/x=2\/x=3:=by omega
 unfold N9;rcases this with rfl|rfl|rfl|rfl<;>exact⟨_,rfl,by omega,by omega⟩
abbrev UN:List TypeId:=[jb,CE,aK,xu,xg,oQ,qj,kl,xh,dD,ja,qh,kR,sK,Ik,UK,DX]
def Tf (w:World):Bs:=λb=>∃a t,Bk w b t a/\t∈UN
theorem TR.tf {ts:List TypeId}{hi:Nat}(h:∀t∈ts,t∈UN):∀b,TR ts f hi w b->Tf w b:=λ_ ⟨_,a,t,d,e⟩=>⟨a,t,d,h t e⟩
theorem Tf.lt:∀b,Tf w b->b<w.heap.size:=λ_ ⟨_,_,h,_⟩=>h.lt
def yV (w:World)(e:Ending)(w':World):Prop:=∃(f:iu) (a:List Value),tP f/\e=.returned (.agg a.toArray)/\kt w' (Tf w') a f/\Below w w w'
def xQ:Nat->Value:=λi=>if i=0 then .int .i64 0 else .slice none 0 0
theorem YK {Wf a:World}{A:Option Addr}{n:Nat}{zs:List Int}(d:Below w w Wf)(f:w.heap.size<=Wf)(g:Rd w w.heap.size A n 1 (aC zs))(h:∀z∈zs,gN z)(i:n<=1000000000)(c:Nat)(b:(Wf.alloc (.cells #[A n c,.int .i64 0,.int .i64 0,(),(),(),(),(),(),(),(),.int .i64 0] pU)).alloc (.cells #[.int .i64 1000,.int .i64 1024,.int .i64 100,.int .i64 2048] aK)=a):
  Mk a Wf.heap.size xQ 0/\Below Wf Wf a/\Bk a (Wf.heap.size+1) aK #[.int .i64 1000,.int .i64 1024,.int .i64 100,.int .i64 2048]/\a.heap.size=Wf.heap.size+2:=by
 have e:Below Wf Wf a:=by rw[<-b];exact((gD _ _).alloc (ae _) _).alloc (by simp) _
 refine⟨⟨A,n,c,0,zs,?_,nz _,i,?_,h⟩,e,?_,?_⟩
 .rw[<-b];exact(Bk.new _ _ _).alloc _
 .exact((g.below d (ae _)).mono f).below e (ae _)
 .rw[<-b];exact au _ _ (by simp)
 rw[<-b];simp
def Bn:Op:=Op.load 25 (Operand.tmp 176)
attribute [go_sem] Bn
theorem CL (A:Option Addr)(n c:Nat)(zs:List Int)(hr:Rd v v.heap.size A n 1 (aC zs))(hz:∀z∈zs,gN z)(hn:n<=1000000000):Calls Tryz.prog 12 #[A n c] v (yV v):=by
 have HR:=J hr;have HZ:=J hz;have SI:=J (MO aK (by kernel_rfl) .i64);have SR:=J (bG 29 (by kernel_rfl));have SC:=J (bG 30 (by kernel_rfl));have SN:=J (bG 22 (by kernel_rfl));have SH:=J (bG 25 (by kernel_rfl));have SF:=J (bG 27 (by kernel_rfl));have ST:=J (bG 78 (by kernel_rfl));have SX:=J (bG 28 (by kernel_rfl));clear hr hz;go_enter Tryz.func12,Tryz.ntmps12
 go_wp2_with fail
 obtain⟨Wf,aq⟩:∃Wf,v.alloc (.cells #[.int .i64 0,(),(),(),(),(),(),(),()] gI)=Wf:=⟨_,rfl⟩
 have bx:Bk Wf v.heap.size gI i':=by rw[<-aq];exact Bk.new _ _ _
 have a5:Below v.heap.size v Wf:=by rw[<-aq];exact(gD _ _).alloc (ae _) _
 have AU:v.heap.size+1=Wf.heap.size:=by rw[<-aq];simp
 obtain⟨Wm,a6⟩:∃Wm,(Wf.alloc (.cells #[A n c,.int .i64 0,.int .i64 0,(),(),(),(),(),(),(),(),.int .i64 0] pU)).alloc (.cells #[.int .i64 1000,.int .i64 1024,.int .i64 100,.int .i64 2048] aK)=Wm:=⟨_,rfl⟩
 rw[aq,a6,AU];have BF:=J bx;have LF:=J a5;obtain⟨m,hm⟩:∃m,Wf.heap.size=m:=⟨_,rfl⟩
 obtain⟨a7,bz,a8,cG⟩:=YK a5 (by rw[<-AU];exact Nat.le_succ _) HR HZ hn c a6;rw[hm]at a7 a8 cG AU ⊢;have HK:=J a7;have HL:=J bz;clear aq a6 bx a5 a7 bz;refine(aA Wm m xQ 0 4 HK (by omega) (by omega)).mono ?_;rintro e w2 ⟨x,hx,rfl,U,V⟩;have bA:=(Sp.next HK V).bk a8 (by decide);obtain⟨u,hu,Tc⟩:=NX x hx;have qx:w2.cell? ⟨m+1,x,none⟩=some (.int .i64 u):=by rw[bA.cell];exact hu
 have q2:w2.cell? ⟨m,2,none⟩=some (.int .i64 0):=U.iB 0 (by omega) rfl;have f2:=U.frozen 2;have cH:=U.lt;have si:=SI.out;have lZ:=J U;have bB:=J (zM HL (Nat.le_of_eq hm) V);clear U V a8 HK HL bA hu;go_wp2_with fail
 obtain⟨F0,aQ⟩:∃F,eP xQ 0 (.int .i64 u)=F:=⟨_,rfl⟩
 have bE:F0 0=.int .i64 u:=by rw[<-aQ];rfl
 have HN:Hid (∀i,1<=i->F0 i=.slice none 0 0):=J (λi hi=>by rw[<-aQ,aZ (by omega)];exact if_neg (by omega));have HU:=J bE;have ar:=lZ.put 0 (by omega) (.int .i64 u);have o:=lZ.tF 2 (.int .i64 u);rw[aQ]at ar;obtain⟨ch,bF⟩:∃ch,w2.setCell ⟨m,2,none⟩ (.int .i64 u)=ch:=⟨_,rfl⟩
 rw[bF]at ar o ⊢;have lM:=J ar;have tJ:=J (zM bB (Nat.le_of_eq hm) o);clear bF ar o lZ bB qx q2 f2 aQ bE si;refine(aA ch m F0 0 3 lM (by omega) (by omega)).mono ?_;rintro e w4 ⟨ka,eg,rfl,a9,bH⟩;have bL:=zM tJ (Nat.le_of_eq hm) bH;have eh:=a9.lt;have ut:Hid (MS kI Wf m F0 0 5 qh [] 4 none 0 [] [] (λ_=>True) w4.heap.size w4.heap.size w4):=J (MS.start a9 (HN 5 (by omega)) (ly.true (hi:=m+1) (by omega)) bL ⟨by omega,by omega⟩);generalize w4.heap.size=hA at ut;clear a9 bH bL lM tJ;go_wp2_with fail
 go_loopw [5] (λi wr=>∃(l:List mT) (K:Option Addr) (N:Nat) (cells:List Value) (C:Nat),l.length<=ka/\i=.int .i64 l.length/\Hid ((∀a∈l,hZ a.gn=true/\N9 a.km/\N9 a.kA/\N9 a.kv))/\Hid (MS kI Wf m F0 0 5 qh [] 4 K N cells l (λ_=>True) hA C wr)) (λi _=>ka - (intOf i).toNat)
 case atStart=>exact⟨[],none,0,[],hA,nz _,rfl,J (by simp),ut⟩
 case round=>
  obtain⟨wa,rfl⟩:∃x,x=wr:=⟨_,rfl⟩
  obtain⟨l,K,N,cells,C,hk,rfl,bM,s⟩:=hrel;by_cases cJ:l.length<ka
  .have cK:l.length<3:=by omega
   have HI:Hid (GI wa m (eP F0 5 (K l.length N)) 0 wa):=J ⟨s.b,Ig m wa⟩
   go_upto_region 7 with fail
   refine LR wa m l.length (eP F0 5 (K l.length N)) HI (by omega) _ _ (by kernel_rfl) _ _ _ _ _ _ _ _ _ _ _ _ _ _ _ _ _ _ _ _ _ _ _ _ _ _ _ _ _ _ _ _ _ _ _ _ _ _ _ _ _ _ _ _ _ _ _ _ _ _ _ _ _ _ _ _ _ _ _ _ _ _ _ _ _ _ _ _ _ _ _ _ _ _ _ _ _ _ _ _ _ _ _ _ _ _ _ _ _ _ _ _ _ _ _ _ _ _ _ _ _ _ _ _ _ _ _ _ _ _ _ _ _ _ _ _ _ _ _ _ _ _ _ _ _ _ _ _ _ _ _ _ _ _ _ _ _ _ _ _ _ _ _ _ _ _ _ _ _ _ _ _ _ _ _ _ _ _ _ _ _ _ _ _ _ _ _ _ _ _ _ _ _ _ _ _ _ _ _ _ _ _ _ _ _ _ _ _ _ _ _ _ _ _ _ _ _ _ _ _ _ _ _ _ _ _ _ _ _ _ _ _ _ _ _ _ _ _ _ _ _ _ _ _ _ _ _ _ _ _ _ _ _ _ _ _ _ _ _ _ _ _ _ _ _ (J ?_);intro g mn mx wx ei ej ek el em en eo ep eq er es et ev ew hg ba bb al bc;have HX:=J (s.next kI.ok (by decide) bc.b bc.j);have x7:wx.cell? ⟨m,7,none⟩=some (K l.length N):=HX.cell (by omega);have d0:=al.cell 0;have d1:=al.cell 1;have d2:=al.cell 2;have d3:=al.cell 3;have ex:=al.lt;have ez:=HX.b.lt;have sx:=SX.out;obtain⟨B,d,w9,j,x9,y9,z9,O⟩:=(HX.drew kI.ok).more kI.ok (by omega) LJ (by decide) (by decide) (n:=l.length) rfl (by omega) (⟨F9 l.length,mn,0,mx⟩:mT) #[.string (F9 l.length),mn,.int .i64 0,mx] rfl (by simp[Value.oneCell']) ⟨rfl,lI ba,(show gN 0 from⟨by decide,by decide⟩),lI bb⟩;have Yw:(Builtin.append_ #[28,28] 28 #[K l.length N,.slice (some ⟨wx.heap.size,0,none⟩) 1 1]).run Tryz.prog (wx.alloc (.cells #[.string (F9 l.length),mn,.int .i64 0,mx] qh)).drew=.ok (B (l.length+1) d) w9:=j;have H9:=J O;have cL:Hid (∀a∈l++[(⟨F9 l.length,mn,0,mx⟩:mT)],hZ a.gn=true/\N9 a.km/\N9 a.kA/\N9 a.kv):=J λa ha=>by
    rw[jp,js]at ha;rcases ha with ha|rfl
    .exact bM a ha
    exact⟨R5 ⟨l.length,cK⟩,ba,(show N9 0 from⟨by decide,by decide⟩),bb⟩
   have cM:Hid (MS kI Wf m F0 0 5 qh [] 4 B d (cells++[.string (F9 l.length),.int .i64 mn,.int .i64 0,.int .i64 mx]) (l++[(⟨F9 l.length,mn,0,mx⟩:mT)]) (λ_=>True) hA wx.heap.size (w9.setCell ⟨m,7,none⟩ (B (l.length+1) d))):=H9;clear O H9 j al bc ba bb;go_wp2_with fail
   go_region
   all_goals
    go_wp2_with fail
    go_roundw
    case rel=>exact⟨l++[(⟨F9 l.length,mn,0,mx⟩:mT)],B,d,_,_,by(rw[la];show l.length+1<=ka;omega),by simp,cL,cM⟩
    case measure=>simp[intOf];omega
  obtain⟨P1,h1,QQ,cN⟩:∃P1 h1,Hid (SG Wf m (eP F0 5 (K l.length N)) 0 P1 h1 wa)/\Hid (∀v,P1 v->Sl kI 4 v (TR [qh] (m+1) h1 v) K l):=⟨_,_,J (s.sg kI.ok (by omega)),J λv h=>h.2⟩
  obtain⟨F1,av⟩:∃F,eP F0 5 (K l.length N)=F:=⟨_,rfl⟩
  have bN:Hid (F1 5= K l.length N):=by rw[<-av];exact J (fG _ _ _)
  have MZ:Hid (F1 0=.int .i64 u):=by rw[<-av];exact J ((aZ (by decide)).trans HU)
  have tK:Hid (∀i,1<=i->i≠5->F1 i=.slice none 0 0):=by rw[<-av];exact J λi hi h5=>(aZ h5).trans (HN i hi)
  rw[av]at QQ;have cP:=J (show l.length<=2 by omega);clear av s HN HU
  go_upto_if 66 with fail
  go_cut [7,8,9,10,66]from 67 to 105 (λ_ _ _ _ _ wx=>∃(rg:List Region) (A6:Option Addr) (c6:Nat) (P2:World->Prop) (h2:Nat),((∀r∈rg,(∀t∈r.kB,N9 t.start/\N9 t.jx/\N9 t.jz)/\r.kB.length<=2)/\rg.length<=3)/\(∀v,P2 v->P1 v/\Sl ko 1 v (TR [sK,kR] (m+1) h2 v) A6 rg)/\SG Wf m (eP F1 6 (A6 rg.length c6)) 0 P2 h2 wx)
  case first=>
   by_cases h0:0<ka
   .go_wp2_with fail
    refine(aA wa m F1 0 4 QQ.b (by omega) (by omega)).mono ?_;rintro e wb ⟨nr,eA,rfl,bO,bP⟩;have bR:Hid (MS ko Wf m F1 0 6 sK [kR] 1 none 0 [] [] P1 wb.heap.size wb.heap.size wb):=J ((QQ.next bO bP).ms (tK 6 (by omega) (by omega)));generalize wb.heap.size=hB at bR;clear bO bP;go_wp2_with fail
    go_loopw [8] (λi wr=>∃(rg:List Region) (A6:Option Addr) (c6:Nat) (cells:List Value) (C:Nat),rg.length<=nr/\i=.int .i64 rg.length/\Hid (∀r∈rg,(∀t∈r.kB,N9 t.start/\N9 t.jx/\N9 t.jz)/\r.kB.length<=2)/\Hid (MS ko Wf m F1 0 6 sK [kR] 1 A6 c6 cells rg P1 hB C wr)) (λi _=>nr - (intOf i).toNat)
    case atStart=>exact⟨[],none,0,[],hB,nz _,rfl,J (by simp),bR⟩
    case round=>
     obtain⟨wd,rfl⟩:∃x,x=wr:=⟨_,rfl⟩
     obtain⟨rg,A6,c6,cells,C,bS,rfl,aa,s⟩:=hrel;by_cases bT:rg.length<nr
     .go_wp2_with fail
      obtain⟨we,bd⟩:∃we,wd.alloc (.cells #[()] sK)=we:=⟨_,rfl⟩
      have cQ:Hid (TG Wf m F1 P1 hB wd.heap.size A6 c6 cells rg [] none 0 we):=by rw[<-bd];have h1:=s.below ko.ok ((gD wd.heap.size wd).alloc (ae _) (.cells #[()] sK));exact J ⟨h1.rn ko.ok s.g.2.2.2 (by simp),Bk.new _ _ _,World.ownsRow_nil _ _ _ _,λx hx=>Nat.ne_of_lt (s.row.lt x hx).2⟩
      rw[bd];clear bd s;go_loopw [10] (λi wr=>∃(ts:List mC) (At:Option Addr) (ct:Nat),ts.length<=ka/\i=.int .i64 ts.length/\Hid (∀t∈ts,N9 t.start/\N9 t.jx/\N9 t.jz)/\Hid (TG Wf m F1 P1 hB wd.heap.size A6 c6 cells rg ts At ct wr)) (λi _=>ka - (intOf i).toNat)
      case atStart=>exact⟨[],none,0,nz _,rfl,J (by simp),cQ⟩
      case round=>
       obtain⟨wg,rfl⟩:∃x,x=wr:=⟨_,rfl⟩
       obtain⟨ts,At,ct,ar,rfl,bf,HT⟩:=hrel;have xr:wg.cell? (wd,0)=some (At ts.length ct):=HT.bk.cell 0;have eB:=HT.bk.lt;by_cases bW:ts.length<ka
       .
        have eD:wd.heap.size≠m:=by have:=HT.ms.g;omega
        have dh:True:=trivial;have st:=ST.out;go_wp2_with fail
        go_region_with (first
         |(go_at_call 29;have _t:=dh;first
          |(refine(aA _ m (eP F1 6 (A6 rg.length c6)) 0 5 (by exact(HT.drew.alloc _).ms.b) (by omega) (by omega)).mono ?_;rintro e ch ⟨x,hx,rfl,bK,o⟩;have H:=(HT.drew.alloc (.cells #[.int .i64 0,.int .i64 64,.int .i64 64,.int .i64 0,.int .i64 32,.int .i64 64,.int .i64 (-64),.int .i64 (-64),.int .i64 0,.int .i64 (-1),.int .i64 0,.int .i64 5,.int .i64 10,.int .i64 32,.int .i64 50] kR)).next bK o;have hL:=(Sp.next (HT.drew.alloc (.cells #[.int .i64 0,.int .i64 64,.int .i64 64,.int .i64 0,.int .i64 32,.int .i64 64,.int .i64 (-64),.int .i64 (-64),.int .i64 0,.int .i64 (-1),.int .i64 0,.int .i64 5,.int .i64 10,.int .i64 32,.int .i64 50] kR)).ms.b o).bk (Bk.new wg.drew kR #[.int .i64 0,.int .i64 64,.int .i64 64,.int .i64 0,.int .i64 32,.int .i64 64,.int .i64 (-64),.int .i64 (-64),.int .i64 0,.int .i64 (-1),.int .i64 0,.int .i64 5,.int .i64 10,.int .i64 32,.int .i64 50]) (by decide);obtain⟨ta,tb,tc,ea,eb,ec,na,nb,nc⟩:=Xr x hx;have qa:ch.cell? ⟨wg.heap.size,x*3,none⟩=some (.int .i64 ta):=(hL.cell _).trans ea;have qb:ch.cell? ⟨wg.heap.size,x*3+1,none⟩=some (.int .i64 tb):=(hL.cell _).trans eb;have qc:ch.cell? ⟨wg.heap.size,x*3+2,none⟩=some (.int .i64 tc):=(hL.cell _).trans ec;have Xx:ch.cell? (wd,0)=some (At ts.length ct):=H.bk.cell 0;have MW:=H.bk.lt;obtain⟨B,d,w9,j,x9,y9,z9,O⟩:=H.more (by omega) ta tb tc;have H9:=J O;have Ef:=J (And.intro na (And.intro nb nc));clear _t dh hL H O bK o ea eb ec na nb nc)
          |(refine(aA _ m (eP F1 6 (A6 rg.length c6)) 0 5 (by exact HT.drew.ms.b) (by omega) (by omega)).mono ?_;rintro e ch ⟨x,hx,rfl,bK,o⟩;have H:=(HT.drew.next bK o).alloc (.cells #[.int .i64 0,.int .i64 64,.int .i64 64,.int .i64 0,.int .i64 32,.int .i64 64,.int .i64 (-64),.int .i64 (-64),.int .i64 0,.int .i64 (-1),.int .i64 0,.int .i64 5,.int .i64 10,.int .i64 32,.int .i64 50] kR);have h3:=HT.drew.next bK o;obtain⟨ta,tb,tc,ea,eb,ec,na,nb,nc⟩:=Xr x hx;have hL:=Bk.new ch kR #[.int .i64 0,.int .i64 64,.int .i64 64,.int .i64 0,.int .i64 32,.int .i64 64,.int .i64 (-64),.int .i64 (-64),.int .i64 0,.int .i64 (-1),.int .i64 0,.int .i64 5,.int .i64 10,.int .i64 32,.int .i64 50];have qa:(ch.alloc (.cells #[.int .i64 0,.int .i64 64,.int .i64 64,.int .i64 0,.int .i64 32,.int .i64 64,.int .i64 (-64),.int .i64 (-64),.int .i64 0,.int .i64 (-1),.int .i64 0,.int .i64 5,.int .i64 10,.int .i64 32,.int .i64 50] kR)).cell? ⟨ch.heap.size,x*3,none⟩=some (.int .i64 ta):=(hL.cell _).trans ea;have qb:(ch.alloc (.cells #[.int .i64 0,.int .i64 64,.int .i64 64,.int .i64 0,.int .i64 32,.int .i64 64,.int .i64 (-64),.int .i64 (-64),.int .i64 0,.int .i64 (-1),.int .i64 0,.int .i64 5,.int .i64 10,.int .i64 32,.int .i64 50] kR)).cell? ⟨ch.heap.size,x*3+1,none⟩=some (.int .i64 tb):=(hL.cell _).trans eb;have qc:(ch.alloc (.cells #[.int .i64 0,.int .i64 64,.int .i64 64,.int .i64 0,.int .i64 32,.int .i64 64,.int .i64 (-64),.int .i64 (-64),.int .i64 0,.int .i64 (-1),.int .i64 0,.int .i64 5,.int .i64 10,.int .i64 32,.int .i64 50] kR)).cell? ⟨ch.heap.size,x*3+2,none⟩=some (.int .i64 tc):=(hL.cell _).trans ec;have Xx:ch.cell? (wd,0)=some (At ts.length ct):=h3.bk.cell 0;have MW:=h3.bk.lt;obtain⟨B,d,w9,j,x9,y9,z9,O⟩:=H.more (by omega) ta tb tc;rw[World.size_alloc]at j;have H9:=J O;have Ef:=J (And.intro na (And.intro nb nc));clear _t dh hL H h3 O bK o ea eb ec na nb nc)))
        all_goals
         have cR:Hid (∀t∈ts++[(⟨ta,tb,tc⟩:mC)],N9 t.start/\N9 t.jx/\N9 t.jz):=J λt ht=>by
          rw[jp,js]at ht;rcases ht with ht|rfl
          .exact bf t ht
          exact Ef
         clear j x9 y9 z9 Xx MW qa qb qc;go_wp2_with fail
         go_roundw
         case rel=>exact⟨ts++[(⟨ta,tb,tc⟩:mC)],B,d,by(rw[la];show ts.length+1<=ka;omega),by simp,cR,H9⟩
         case measure=>simp[intOf];omega
       have ab:=HT.ms.g;have x8:wg.cell? ⟨m,8,none⟩=some (A6 rg.length c6):=HT.ms.cell (by omega);have zm:=HT.ms.b.lt;have eE:=SR.out;have mF:ko wg.drew (TR [kR] hB wg.drew.heap.size wg.drew) [At ts.length ct] ⟨ts⟩:=⟨At,ct,rfl,Cf (lo:=hB) HT.drew.row (Mm _ _ ts λt ht=>by have h:=bf t ht;exact⟨lI h.1,lI h.2.1,lI h.2.2⟩) (by simp) (by omega) (by omega)⟩
       obtain⟨B,d,w9,j,x9,y9,z9,O⟩:=HT.drew.ms.more ko.ok (by omega) Di (by decide) (by decide) (n:=rg.length) rfl (by omega) ⟨ts⟩ #[At ts.length ct] rfl (by simp[Value.oneCell']) mF;have Yw:(Builtin.append_ #[29,29] 29 #[A6 rg.length c6,.slice (wg,0) 1 1]).run Tryz.prog (wg.alloc (.cells #[At ts.length ct] sK)).drew=.ok (B (rg.length+1) d) w9:=j;have H9:Hid (MS ko Wf m F1 0 6 sK [kR] 1 B d (cells++[At ts.length ct]) (rg++[⟨ts⟩]) P1 hB wg.heap.size (w9.setCell ⟨m,8,none⟩ (B (rg.length+1) d))):=J O;have aw:Hid (∀r∈rg++[(⟨ts⟩:Region)],(∀t∈r.kB,N9 t.start/\N9 t.jx/\N9 t.jz)/\r.kB.length<=2):=J λr hr=>by
        rw[jp,js]at hr;rcases hr with hr|rfl
        .exact aa r hr
        exact⟨bf,show ts.length<=2 by omega⟩
       clear O j mF ab;go_wp2_with fail
       go_region
       all_goals
        go_wp2_with fail
        go_roundw
        case rel=>exact⟨rg++[(⟨ts⟩:Region)],B,d,_,_,by(rw[la];show rg.length+1<=nr;omega),by simp,aw,H9⟩
        case measure=>simp[intOf];omega
     go_wp2_with fail
     go_meet
     exact⟨rg,A6,c6,_,_,⟨aa,by omega⟩,λv h=>h,s.sg ko.ok (by omega)⟩
   have eI:ka=0:=by omega
   go_wp2_with fail
   go_meet
   refine⟨[],none,0,P1,h1,by simp,λv h=>⟨h,Sl.nil⟩,?_⟩;have e6:eP F1 6 (.slice none ([]:List Region).length 0)=F1:=Ax (tK 6 (by omega) (by omega));rw[e6];exact QQ
  case rest=>
  obtain⟨rg,A6,c6,P2,h2,bg,bX,bh⟩:=hcut;obtain⟨wb,rfl⟩:∃x,x=wc:=⟨_,rfl⟩
  obtain⟨F2,ao⟩:∃F,eP F1 6 (A6 rg.length c6)=F:=⟨_,rfl⟩
  have bZ:Hid (F2 6= A6 rg.length c6):=by rw[<-ao];exact J (fG _ _ _)
  have b0:Hid (F2 5= K l.length N):=by rw[<-ao];exact J ((aZ (by decide)).trans bN)
  have b1:Hid (F2 0=.int .i64 u):=by rw[<-ao];exact J ((aZ (by decide)).trans MZ)
  have uC:Hid (∀i,1<=i->i≠5->i≠6->F2 i=.slice none 0 0):=by rw[<-ao];exact J λi hi h5 h6=>(aZ h6).trans (tK i hi h5)
  rw[ao]at bh;have bj:=J bh;have cS:=J bg;have cT:=J bX;have d9:=bg.2;clear ao bh bg bX tK MZ bN QQ;go_wp2_with fail
  refine(aA wb m F2 0 3 bj.b (by omega) (by omega)).mono ?_;rintro e wd ⟨kf,bV,rfl,b2,b3⟩;have ZT:Hid (MS kx Wf m F2 0 7 Ik [qj] 1 none 0 [] [] P2 wd.heap.size wd.heap.size wd):=J ((bj.next b2 b3).ms (uC 7 (by omega) (by omega) (by omega)));generalize wd.heap.size=hC at ZT;clear b2 b3 bj;go_wp2_with fail
  go_loopw [11] (λi wr=>∃(D:List (List Ins)) (R:Option Addr) (T:Nat) (cells:List Value) (C:Nat) (lp:Int),D.length<=kf/\i=.int .i64 D.length/\Hid (∀p∈D,nI p/\p.length<=60)/\Hid (MS kx Wf m F2 lp 7 Ik [qj] 1 R T cells D P2 hC C wr)) (λi _=>kf - (intOf i).toNat)
  case atStart=>exact⟨[],none,0,[],hC,0,nz _,rfl,J (by simp),ZT⟩
  case round=>
   obtain⟨we,rfl⟩:∃x,x=wr:=⟨_,rfl⟩
   obtain⟨D,R,T,cells,C,lp,eJ,rfl,b4,s⟩:=hrel;by_cases cJ:D.length<kf
   .
    have cU:we.cell? ⟨m,11,none⟩=some (.int .i64 lp):=s.b.cells.2;have cW:=s.b.frozen 11;have cX:=s.b.lt;have si:=SI.out
    go_upto_region 25 with fail
    have Ej:Hid (MS kx Wf m F2 0 7 Ik [qj] 1 R T cells D P2 hC C (we.setCell ⟨m,11,none⟩ (.int .i64 0))):=J (s.next kx.ok (by decide) (s.b.loops 0) (s.b.tF 11 _));obtain⟨w1,ap⟩:∃w1,we.setCell ⟨m,11,none⟩ (.int .i64 0)=w1:=⟨_,rfl⟩
    rw[ap]at Ej ⊢;clear ap cU cW cX s si;have eK:w1.cell? ⟨m,9,none⟩=some (R D.length T):=Ej.cell (by omega);have eL:=Ej.b.lt;have ab:=Ej.g;have sc:=SC.out;have dh:True:=trivial
    go_region_with (go_at_call 30;have _t:=dh;refine(WC _ m (eP F2 7 (R D.length T)) 0 6 D.length 4 (by exact Ej.b) (by omega) (by omega) (by omega) (by omega) (by omega)).mono ?_;rintro e ch ⟨pc,Ap,cp,bl,hp,cY,eM,rfl,ee,sp,bK,o⟩;have H:=(Ej.drew kx.ok).next kx.ok (by decide) bK o;have cZ:ch.cell? ⟨m,9,none⟩=some (R D.length T):=H.cell (by omega);have ay:=H.b.lt;obtain⟨B,d,w9,j,x9,y9,z9,O⟩:=H.more kx.ok (by omega) LM (by decide) (by decide) (n:=D.length) rfl (by omega) pc #[Ap pc.length cp] rfl (by simp[Value.oneCell']) ⟨Ap,cp,rfl,sp.mono ky.ok (TR.sB (by show hC<=w1.heap.size;omega))⟩;have H9:=J O;have b5:=J (And.intro hp cY);clear _t dh H O bK o sp hp)
    all_goals
     have c0:Hid (∀p∈D++[pc],nI p/\p.length<=60):=J λp hp=>by
      rw[jp,js]at hp;rcases hp with hp|rfl
      .exact b4 p hp
      exact⟨b5.1,by have:=b5.2;omega⟩
     clear j x9 y9 z9 cZ ay sc;go_wp2_with fail
     go_roundw
     case rel=>exact⟨D++[pc],B,d,_,_,bl,by(rw[la];show D.length+1<=kf;omega),by simp,c0,H9⟩
     case measure=>simp[intOf];omega
   obtain⟨P3,h3,XF,ZY⟩:∃P3 h3,Hid (SG Wf m (eP F2 7 (R D.length T)) lp P3 h3 we)/\Hid (∀v,P3 v->P2 v/\Sl kx 1 v (TR [Ik,qj] (m+1) h3 v) R D):=⟨_,_,J (s.sg kx.ok (by omega)),J λv h=>h⟩
   obtain⟨F3,ac⟩:∃F,eP F2 7 (R D.length T)=F:=⟨_,rfl⟩
   have b6:Hid (F3 7= R D.length T):=by rw[<-ac];exact J (fG _ _ _)
   have b7:Hid (F3 6= A6 rg.length c6):=by rw[<-ac];exact J ((aZ (by decide)).trans bZ)
   have b8:Hid (F3 5= K l.length N):=by rw[<-ac];exact J ((aZ (by decide)).trans b0)
   have b9:Hid (F3 0=.int .i64 u):=by rw[<-ac];exact J ((aZ (by decide)).trans b1)
   have Ef:Hid (∀i,1<=i->i≠5->i≠6->i≠7->F3 i=.slice none 0 0):=by rw[<-ac];exact J λi hi h5 h6 h7=>(aZ h7).trans (uC i hi h5 h6)
   rw[ac]at XF;have ca:D.length<=2:=by omega
   clear ac uC b1 b0 bZ s;go_wp2_with fail
   refine(aA we m F3 lp 4 XF.b (by omega) (by omega)).mono ?_;rintro e wf ⟨kc,eN,rfl,cb,cc⟩;have cd:Hid (MS gS Wf m F3 lp 8 aK [] 1 none 0 [] [] P3 wf.heap.size wf.heap.size wf):=J ((XF.next cb cc).ms (Ef 8 (by omega) (by omega) (by omega) (by omega)));generalize wf.heap.size=hV at cd;clear cb cc XF;go_wp2_with fail
   go_loopw [12] (λi wr=>∃(E:List Int) (X:Option Addr) (Z:Nat) (cells:List Value) (C:Nat),E.length<=kc/\i=.int .i64 E.length/\Hid (∀n∈E,N9 n)/\Hid (MS gS Wf m F3 lp 8 aK [] 1 X Z cells E P3 hV C wr)) (λi _=>kc - (intOf i).toNat)
   case atStart=>exact⟨[],none,0,[],hV,nz _,rfl,J (by simp),cd⟩
   case round=>
    obtain⟨wg,rfl⟩:∃x,x=wr:=⟨_,rfl⟩
    obtain⟨E,X,Z,eO,eR,eS,rfl,ce,s⟩:=hrel;by_cases bT:E.length<kc
    .
     have eT:wg.cell? ⟨m,10,none⟩=some (X E.length Z):=s.cell (by omega);have eV:=s.b.lt;have sn:=SN.out;have dh:True:=trivial;go_wp2_with fail
     go_region_with (go_at_call 29;have _t:=dh;refine(aA _ m (eP F3 8 (X E.length Z)) lp 500 (by exact s.b) (by omega) (by omega)).mono ?_;rintro e ch ⟨x,hx,rfl,bK,o⟩;have H:=(s.drew gS.ok).next gS.ok (by decide) bK o;have cf:ch.cell? ⟨m,10,none⟩=some (X E.length Z):=H.cell (by omega);have ay:=H.b.lt;have ap:IntKind.i64.wrap ((x:Int) - 100)=(x:Int) - 100:=jj _ (by omega) (by omega);obtain⟨B,d,w9,j,x9,y9,z9,O⟩:=H.more gS.ok (by omega) iw (by decide) (by decide) (n:=E.length) rfl (by omega) (IntKind.i64.wrap ((x:Int) - 100)) #[.int .i64 (IntKind.i64.wrap ((x:Int) - 100))] rfl (by simp[Value.oneCell']) ⟨rfl,by rw[ap];exact⟨by omega,by omega⟩⟩;have H9:=J O;have da:=J ap;clear _t dh ap H O bK o)
     all_goals
      have db:Hid (∀n∈E++[IntKind.i64.wrap ((x:Int) - 100)],N9 n):=J λz hz=>by
       rw[jp,js]at hz;rcases hz with hz|rfl
       .exact ce z hz
       rw[da.out];unfold N9;omega
      clear j x9 y9 z9 cf ay sn;go_wp2_with fail
      go_roundw
      case rel=>exact⟨E++[IntKind.i64.wrap ((x:Int) - 100)],B,d,_,_,by(rw[la];show E.length+1<=kc;omega),by simp,db,H9⟩
      case measure=>simp[intOf];omega
    obtain⟨P4,h4,XG,Eg⟩:∃P4 h4,Hid (SG Wf m (eP F3 8 (X E.length Z)) lp P4 h4 wg)/\Hid (∀v,P4 v->P3 v/\Sl gS 1 v (TR [aK] (m+1) h4 v) X E):=⟨_,_,J (s.sg gS.ok (by omega)),J λv h=>h⟩
    obtain⟨F4,Pg⟩:∃F,eP F3 8 (X E.length Z)=F:=⟨_,rfl⟩
    have cg:Hid (F4 8= X E.length Z):=by rw[<-Pg];exact J (fG _ _ _)
    have bm:Hid (F4 7= R D.length T):=by rw[<-Pg];exact J ((aZ (by decide)).trans b6)
    have bn:Hid (F4 6= A6 rg.length c6):=by rw[<-Pg];exact J ((aZ (by decide)).trans b7)
    have ci:Hid (F4 5= K l.length N):=by rw[<-Pg];exact J ((aZ (by decide)).trans b8)
    have cj:Hid (F4 0=.int .i64 u):=by rw[<-Pg];exact J ((aZ (by decide)).trans b9)
    have QK:Hid (∀i,1<=i->i<5->F4 i=.slice none 0 0):=by rw[<-Pg];exact J λi hi h5=>(aZ (by omega)).trans (Ef i hi (by omega) (by omega) (by omega))
    rw[Pg]at XG;have dc:E.length<=3:=by omega
    clear Pg Ef b9 b8 b7 b6 s;go_wp2_with fail
    refine(aA wg m F4 lp 9 XG.b (by omega) (by omega)).mono ?_;rintro e wh ⟨aR,eW,rfl,ck,cl⟩;have I4:Hid (MS iA Wf m F4 lp 1 jb MQ 9 none 0 [] [] P4 wh.heap.size wh.heap.size wh):=J ((XG.next ck cl).ms (QK 1 (by omega) (by omega)));generalize wh.heap.size=hG at I4;clear ck cl XG;go_wp2_with fail
    go_loopw [13] (λi wr=>∃(w:List hU) (L:Option Addr) (S:Nat) (cells:List Value) (C:Nat) (lp:Int),w.length<=2+aR/\i=.int .i64 w.length/\Hid (∀i g,w[i]?=some g->rr i g)/\Hid (MS iA Wf m F4 lp 1 jb MQ 9 L S cells w P4 hG C wr)) (λi _=>2+aR - (intOf i).toNat)
    case atStart=>exact⟨[],none,0,[],hG,lp,nz _,rfl,J (by simp),I4⟩
    case round=>
     obtain⟨wi,rfl⟩:∃x,x=wr:=⟨_,rfl⟩
     obtain⟨w,L,S,dd,eX,vS,eZ,rfl,cm,s⟩:=hrel;by_cases bW:w.length<2+aR
     .
      have ab:=s.g;go_wp2_with fail
      refine(Cw wi m (eP F4 1 (L w.length S)) vS w.length w.length L S hG dd A6 rg.length c6 R D.length T s.b (fG _ _ _) ((aZ (by decide)).trans bn) ((aZ (by decide)).trans bm) s.row (by omega) (by omega) (by omega) (by omega) (by omega) (by omega)).mono ?_;rintro e ch ⟨g,nc,B,d,bl,de,rfl,bK,cn,df,co,o⟩;rw[OE]at bK;have H:=s.z bK cn df co o;have H9:=J H;have dg:Hid (∀i g',(w++[g])[i]?=some g'->rr i g'):=J λi g' hi=>by
       by_cases dj:i<w.length
       .rw[un dj]at hi;exact cm i g' hi
       have dk:i=w.length:=by have:=(ll.1 hi).1;simp at this;omega
       subst dk;rw[ri (ae _),Nat.sub_self]at hi;simp only[oj,n']at hi;subst hi;exact de
      clear H bK cn co o;go_wp2_with fail
      go_roundw
      case rel=>exact⟨w++[g],B,d,_,_,bl,by(rw[la];show w.length+1<=2+aR;omega),by simp,dg,H9⟩
      case measure=>simp[intOf];omega
     obtain⟨P5,h5,QR,tN⟩:∃P5 h5,Hid (SG Wf m (eP F4 1 (L w.length S)) vS P5 h5 wi)/\Hid (∀v,P5 v->P4 v/\Sl iA 9 v (TR (jb::MQ) (m+1) h5 v) L w):=⟨_,_,J (s.sg iA.ok (by omega)),J λv h=>h⟩
     obtain⟨F5,pI⟩:∃F,eP F4 1 (L w.length S)=F:=⟨_,rfl⟩
     have Na:Hid (F5 1= L w.length S):=by rw[<-pI];exact J (fG _ _ _)
     have Nb:Hid (F5 8= X E.length Z/\F5 7= R D.length T/\F5 6= A6 rg.length c6/\F5 5= K l.length N/\F5 0=.int .i64 u):=by rw[<-pI];exact J ⟨(aZ (by decide)).trans cg,(aZ (by decide)).trans bm,(aZ (by decide)).trans bn,(aZ (by decide)).trans ci,(aZ (by decide)).trans cj⟩
     have aW:Hid (∀i,2<=i->i<5->F5 i=.slice none 0 0):=by rw[<-pI];exact J λi hi h5=>(aZ (by omega)).trans (QK i (by omega) h5)
     rw[pI]at QR;have uU:w.length<=10:=by omega
     have dl:2<=w.length:=by omega
     have e1:=QR.b.lt;clear pI QK cj ci bn bm cg s;go_wp2_with fail
     refine(Im wi).mono ?_;rintro e wj ⟨rfl,a0⟩;have bo:Bk wj wi.heap.size aK #[.int .i64 97,.int .i64 98,.int .i64 99,.int .i64 102,.int .i64 105,.int .i64 108,.int .i64 57345,.int .i64 57346,.int .i64 57601,.int .i64 57602,.int .i64 57603,.int .i64 57857,.int .i64 57861,.int .i64 58113,.int .i64 58114,.int .i64 58369]:=by rw[a0];exact Bk.new _ _ _
     have dm:wj.heap.size=wi.heap.size+1:=by rw[a0];simp
     have cq:SG Wf m F5 vS P5 h5 wj:=by rw[a0];exact QR.below ((gD _ _).alloc (ae _) _)
     have dn:=QR.fz.im;obtain⟨rb,dp⟩:∃rb,wi.heap.size=rb:=⟨_,rfl⟩
     rw[dp]at bo dm dn ⊢;have Pj:=cq.more (Q:=λv=>Bk v rb aK #[.int .i64 97,.int .i64 98,.int .i64 99,.int .i64 102,.int .i64 105,.int .i64 108,.int .i64 57345,.int .i64 57346,.int .i64 57601,.int .i64 57602,.int .i64 57603,.int .i64 57857,.int .i64 57861,.int .i64 58113,.int .i64 58114,.int .i64 58369]) (hi2:=wj.heap.size) (by omega) (ae _) bo (λv w' hq he=>(he rb (by omega) (by omega)).trans hq);have ZT:Hid (MS kO Wf m F5 vS 2 UK [] 2 none 0 [] [] (λv=>P5 v/\Bk v rb aK #[.int .i64 97,.int .i64 98,.int .i64 99,.int .i64 102,.int .i64 105,.int .i64 108,.int .i64 57345,.int .i64 57346,.int .i64 57601,.int .i64 57602,.int .i64 57603,.int .i64 57857,.int .i64 57861,.int .i64 58113,.int .i64 58114,.int .i64 58369]) wj.heap.size wj.heap.size wj):=J (Pj.ms (aW 2 (by omega) (by omega)));generalize wj.heap.size=hJ at ZT;clear bo cq Pj a0 QR;go_wp2_with fail
     go_loopw [15] (λi wr=>∃(k:Nat) (G:List nD) (Y:Option Addr) (c2:Nat) (cells:List Value) (C:Nat),k<=16/\i=.int .i64 k/\G.length<=k/\Hid (∀c∈G,N9 c.jN/\In w.length c.z)/\Hid (MS kO Wf m F5 vS 2 UK [] 2 Y c2 cells G (λv=>P5 v/\Bk v rb aK #[.int .i64 97,.int .i64 98,.int .i64 99,.int .i64 102,.int .i64 105,.int .i64 108,.int .i64 57345,.int .i64 57346,.int .i64 57601,.int .i64 57602,.int .i64 57603,.int .i64 57857,.int .i64 57861,.int .i64 58113,.int .i64 58114,.int .i64 58369]) hJ C wr)) (λi _=>16 - (intOf i).toNat)
     case atStart=>exact⟨0,[],none,0,[],hJ,nz _,rfl,nz _,J (by simp),ZT⟩
     case round=>
      obtain⟨wk,rfl⟩:∃x,x=wr:=⟨_,rfl⟩
      obtain⟨k,G,Y,c2,a1,wS,e2,rfl,e3,bp,s⟩:=hrel;by_cases cs:k<16
      .
       go_wp2_with fail
       refine(aA wk m (eP F5 2 (Y G.length c2)) vS 4 s.b (by omega) (by omega)).mono ?_;rintro e wl ⟨y,hy,rfl,aD,ad⟩;have HL:=J (s.next kO.ok (by decide) aD ad);clear aD ad s;by_cases e4:0<y
       .have ey:decide ((0:Int)<y)=true:=by simp;omega
        obtain⟨ru,a2,cu⟩:=Nn k cs;have x4:wl.cell? ⟨m,4,none⟩=some (Y G.length c2):=HL.cell (by omega);have x3:wl.drew.cell? ⟨m,3,none⟩=some (L w.length S):=HL.b.iB 1 (by omega) ((aZ (by decide)).trans Na);have xr:wl.drew.cell? ⟨rb,k,none⟩=some (.int .i64 ru):=(HL.fz.now.2.cell k).trans a2;have e5:=HL.b.lt;have e7:=HL.fz.now.2.lt;have sh:=SH.out;have dh:True:=trivial;go_wp2_with fail
        rw[show Op.load 25 (Operand.tmp 176)=Bn from rfl]
        go_region_held3 (λw'=>w'.cell? ⟨m,3,none⟩=some (L w.length S)/\w'.cell? ⟨rb,k,none⟩=some (.int .i64 ru))
         (first
          |with_reducible exact⟨x3,xr⟩
          |with_reducible exact⟨zW,Xx⟩
          |with_reducible exact⟨vp _ zW,vp _ Xx⟩
          |with_reducible exact⟨cw,cx⟩
          |with_reducible exact⟨cy,cz⟩
          |go_keep)
         (first
          |(go_at_call 29;have _t:=dh;refine(aA _ m (eP F5 2 (Y G.length c2)) vS w.length (by exact HL.b) (by omega) (by omega)).mono ?_;rintro e ch ⟨x,hx,rfl,bK,o⟩;have H:=(HL.drew kO.ok).next kO.ok (by decide) bK o;have dq:ch.cell? ⟨m,4,none⟩=some (Y G.length c2):=H.cell (by omega);have zW:ch.cell? ⟨m,3,none⟩=some (L w.length S):=H.b.iB 1 (by omega) ((aZ (by decide)).trans Na);have Xx:ch.cell? ⟨rb,k,none⟩=some (.int .i64 ru):=(H.fz.now.2.cell k).trans a2;have ay:=H.b.lt;obtain⟨B,d,w9,j,x9,y9,z9,s9,O⟩:=H.BS kO.ok (by omega) LK (by decide) (by decide) (n:=G.length) rfl (by omega) ⟨ru,(x:Int)⟩ #[ru,.int .i64 x] rfl (by simp[Value.oneCell']) ⟨rfl,lI cu,(show gN (x:Int)from⟨by omega,by omega⟩)⟩;have cy:(w9.setCell ⟨m,4,none⟩ (B (G.length+1) d)).cell? ⟨m,3,none⟩=some (L w.length S):=O.b.iB 1 (by omega) ((aZ (by decide)).trans Na);have cz:(w9.setCell ⟨m,4,none⟩ (B (G.length+1) d)).cell? ⟨rb,k,none⟩=some (.int .i64 ru):=(O.fz.now.2.cell k).trans a2;have cw:w9.cell? ⟨m,3,none⟩=some (L w.length S):=(s9.mk H.b (by decide)).iB 1 (by omega) ((aZ (by decide)).trans Na);have cx:w9.cell? ⟨rb,k,none⟩=some (.int .i64 ru):=((s9.bk H.fz.now.2 (by decide)).cell k).trans a2;have H9:=J O;clear _t dh H O bK o s9))
        all_goals
         have dr:Hid (∀c∈G++[(⟨ru,(x:Int)⟩:nD)],N9 c.jN/\In w.length c.z):=J λc hc=>by
          rw[jp,js]at hc;rcases hc with hc|rfl
          .exact bp c hc
          exact⟨cu,show(0:Int)<=x by omega,show(x:Int)<w.length by omega⟩
         clear j x9 y9 z9 dq zW Xx cy cz cw cx ay sh x3 xr x4;go_wp2_with fail
         go_roundw
         case rel=>exact⟨k+1,G++[(⟨ru,(x:Int)⟩:nD)],B,d,_,_,by omega,by simp,by(rw[la];show G.length+1<=k+1;omega),dr,H9⟩
         case measure=>simp[intOf];omega
       have ey:decide ((0:Int)<y)=false:=by simp;omega
       go_wp2_with fail
       go_roundw
       case rel=>exact⟨k+1,G,Y,c2,a1,wS,by omega,by simp,by omega,bp,HL⟩
       case measure=>simp[intOf];omega
      have bS:G.length<=16:=by omega
      obtain⟨P6,h6,CW,yB⟩:∃P6 h6,Hid (SG Wf m (eP F5 2 (Y G.length c2)) vS P6 h6 wk)/\Hid (∀v,P6 v->P5 v/\Sl kO 2 v (TR [UK] (m+1) h6 v) Y G):=⟨_,_,J (s.sg kO.ok (by omega)),J λv h=>⟨h.1.1,h.2⟩⟩
      obtain⟨F6,aE⟩:∃F,eP F5 2 (Y G.length c2)=F:=⟨_,rfl⟩
      have bq:Hid (F6 1= L w.length S):=by rw[<-aE];exact J ((aZ (by decide)).trans Na)
      have Jr:Hid (F6 2= Y G.length c2/\F6 8= X E.length Z/\F6 7= R D.length T/\F6 6= A6 rg.length c6/\F6 5= K l.length N/\F6 0=.int .i64 u):=by rw[<-aE];exact J ⟨fG _ _ _,(aZ (by decide)).trans Nb.1,(aZ (by decide)).trans Nb.2.1,(aZ (by decide)).trans Nb.2.2.1,(aZ (by decide)).trans Nb.2.2.2.1,(aZ (by decide)).trans Nb.2.2.2.2⟩
      have br:Hid (F6 3=.slice none 0 0/\F6 4=.slice none 0 0):=by rw[<-aE];exact J ⟨(aZ (by decide)).trans (aW 3 (by omega) (by omega)),(aZ (by decide)).trans (aW 4 (by omega) (by omega))⟩
      rw[aE]at CW;clear aE aW Na Nb s;go_wp2_with fail
      refine(YJ wk m F6 vS w.length L S CW.b bq br.1 (by omega) (by omega)).mono ?_;rintro e wl ⟨ls,A3,c3,cA,ds,rfl,aD,cB,ad⟩;have cC:SG Wf m (eP F6 3 (A3 ls.length c3)) vS P6 h6 wl:=⟨aD,CW.fz.next (by omega) ad,zM CW.low CW.g.1 ad,CW.g⟩
      have e8:=ad.size;have e9:=CW.fz.im;have fa:=CW.b.lt;have a4:Sl jn 3 wl (TR (ja::PW) (m+1) wl.heap.size wl) A3 ls:=cB.mono jn.ok (TR.sub (λ_ h=>h) (by omega) (ae _));obtain⟨P7,h7,QS,KG⟩:∃P7 h7,Hid (SG Wf m (eP F6 3 (A3 ls.length c3)) vS P7 h7 wl)/\Hid (∀v,P7 v->P6 v/\Sl jn 3 v (TR (ja::PW) (m+1) h7 v) A3 ls):=⟨_,_,J (cC.more (Q:=λv=>Sl jn 3 v (TR (ja::PW) (m+1) wl.heap.size v) A3 ls) (by omega) (ae _) a4 (λv w' hq he=>hq.C jn.ok (TR.xL he))),J λv h=>h⟩
      obtain⟨F7,qC⟩:∃F,eP F6 3 (A3 ls.length c3)=F:=⟨_,rfl⟩
      have CV:Hid (F7 3= A3 ls.length c3/\F7 1= L w.length S/\F7 2= Y G.length c2/\F7 8= X E.length Z/\F7 7= R D.length T/\F7 6= A6 rg.length c6/\F7 5= K l.length N/\F7 0=.int .i64 u):=by rw[<-qC];exact J ⟨fG _ _ _,(aZ (by decide)).trans bq,(aZ (by decide)).trans Jr.1,(aZ (by decide)).trans Jr.2.1,(aZ (by decide)).trans Jr.2.2.1,(aZ (by decide)).trans Jr.2.2.2.1,(aZ (by decide)).trans Jr.2.2.2.2.1,(aZ (by decide)).trans Jr.2.2.2.2.2⟩
      have cD:F7 4=.slice none 0 0:=by rw[<-qC];exact(aZ (by decide)).trans br.2
      rw[qC]at QS;have dt:=J cA;clear qC br bq Jr CW aD cB a4 cC ad cA;go_wp2_with fail
      refine(CN wl).mono ?_;rintro e wn ⟨rfl,a3⟩;have ab:Bk wn wl.heap.size 9 Dk:=by rw[a3];exact Bk.new _ _ _
      have du:wn.heap.size=wl.heap.size+1:=by rw[a3];simp
      have cE:SG Wf m F7 vS P7 h7 wn:=by rw[a3];exact QS.below ((gD _ _).alloc (ae _) _)
      have dv:=QS.fz.im;have dx:=QS.b.lt;obtain⟨nb,dy⟩:∃nb,wl.heap.size=nb:=⟨_,rfl⟩
      rw[dy]at ab du dv dx ⊢;have Pj:=cE.more (Q:=λv=>Bk v nb 9 Dk) (hi2:=wn.heap.size) (by omega) (ae _) ab (λv w' hq he=>(he nb (by omega) (by omega)).trans hq);have cF:Hid (MS kn Wf m F7 vS 4 DX [aK] 2 none 0 [] [] (λv=>P7 v/\Bk v nb 9 Dk) wn.heap.size wn.heap.size wn):=J (Pj.ms cD);generalize wn.heap.size=hE at cF;clear ab cE Pj a3 QS cD;go_wp2_with fail
      go_loopw [17] (λi wr=>∃(k:Nat) (I:List mS) (A4:Option Addr) (c4:Nat) (cells:List Value) (C:Nat),k<=8/\i=.int .i64 k/\I.length<=k/\Hid (∀x∈I,(hZ x.gn=true/\∀n∈x.ge,N9 n)/\x.ge.length<=6)/\Hid (MS kn Wf m F7 vS 4 DX [aK] 2 A4 c4 cells I (λv=>P7 v/\Bk v nb 9 Dk) hE C wr)) (λi _=>8 - (intOf i).toNat)
      case atStart=>exact⟨0,[],none,0,[],hE,nz _,rfl,nz _,J (by simp),cF⟩
      case round=>
       obtain⟨M,rfl⟩:∃x,x=wr:=⟨_,rfl⟩
       obtain⟨k,I,A4,c4,ak,fb,fc,rfl,fd,bs,s⟩:=hrel;by_cases SS:k<8
       .
        have dz:=J (s.rn kn.ok s.g.2.2.2 (ae _));have fe:M.heap.size<=M.heap.size:=ae _;have ff:=s.g.2.2;clear s;go_wp2_with fail
        have Yu:=J SS;clear SS
        rename ((k:Int)<8)=>hbr
        clear hbr;go_loopw [18,19] (λrv i wr=>∃(q:Nat) (f:List Int) (Ar:Option Addr) (cr:Nat),q<=ls.length/\i=.int .i64 q/\rv= Ar f.length cr/\f.length<=q/\Hid (∀n∈f,N9 n)/\Hid (MS kn Wf m F7 vS 4 DX [aK] 2 A4 c4 ak I (λv=>P7 v/\Bk v nb 9 Dk) hE M.heap.size wr)/\Hid (wr.ownsRow M.heap.size aK 1 (Ar f.length cr) f.length (aC f))) (λ_ i _=>ls.length - (intOf i).toNat)
        case atStart=>exact⟨0,[],none,0,nz _,rfl,rfl,nz _,J (by simp),dz,J (World.ownsRow_nil _ _ _ _)⟩
        case round=>
         obtain⟨wq,rfl⟩:∃x,x=wr:=⟨_,rfl⟩
         obtain⟨q,f,Ar,cr,hq,rfl,rfl,fg,aa,HM,HO⟩:=hrel;have x5:wq.cell? ⟨m,5,none⟩=some (A3 ls.length c3):=HM.b.iB 3 (by omega) ((aZ (by decide)).trans CV.1);by_cases ef:q<ls.length
         .go_wp2_with fail
          refine(aA wq m (eP F7 4 (A4 I.length c4)) vS 3 HM.b (by omega) (by omega)).mono ?_;rintro e W ⟨x,hx,rfl,U,V⟩;have KF:=J ((Sp.next HM.b V).own HO (by decide));have uB:=J (HM.next kn.ok (by decide) U V);clear U V x5;by_cases aL:x=0
          .have e0:((x:Int)==0)=true:=by simp;omega
           have dG:=uB.g.2.2.2;clear aL;go_wp2_with (at_builtin;refine jr iw rfl (.tmp 218) (.tmp 220) rfl W W.heap.size rfl M.heap.size f.length cr Ar (aC f) #[q] rfl rfl rfl KF (by simp[Value.oneCell']) (by omega) dG ?_;intro A9 c9 w5 h5 g5 l5;have yS:=J h5;have Ai:=J g5;clear h5 g5 l5)
           have QJ:=J (uB.push kn.ok KF (ae _) Ai (by decide) (by decide));have QL:Hid (w5.ownsRow M.heap.size aK 1 (A9 (f++[(q:Int)]).length c9) (f++[(q:Int)]).length (aC (f++[(q:Int)]))):=J (by simpa [aC,cI]using yS.out);have aw:Hid (∀n∈f++[(q:Int)],N9 n):=J λz hz=>by
            rw[jp,js]at hz;rcases hz with hz|rfl
            .exact aa z hz
            unfold N9;omega
           go_roundw
           case rel=>exact⟨q+1,f++[(q:Int)],A9,c9,by omega,by simp,by simp,by(rw[la];show f.length+1<=q+1;omega),aw,QJ,QL⟩
           case measure=>simp[intOf];omega
          have e0:((x:Int)==0)=false:=by simp;omega
          clear aL;go_wp2_with fail
          go_roundw
          case rel=>exact⟨q+1,f,Ar,cr,by omega,by simp,rfl,by omega,aa,uB,KF⟩
          case measure=>simp[intOf];omega
         go_wp2_with fail
         refine(aA wq m (eP F7 4 (A4 I.length c4)) vS 2 HM.b (by omega) (by omega)).mono ?_;rintro e W ⟨x,hx,rfl,U,V⟩;have KF:=J ((Sp.next HM.b V).own HO (by decide));have uB:=J (HM.next kn.ok (by decide) U V);clear U V x5;by_cases aL:x=0
         .have e0:((x:Int)==0)=true:=by simp;omega
          have SS:=Yu.out;obtain⟨nm,dN,dT⟩:=Li k SS;have x6:W.cell? ⟨m,6,none⟩=some (A4 I.length c4):=uB.cell (by omega);have xn:W.cell? ⟨nb,k,none⟩=some (.string nm):=(uB.fz.now.2.cell k).trans dN;have cH:=uB.b.lt;have fh:=uB.fz.now.2.lt;have sf:=SF.out;have mF:kn W.drew (TR [aK] hE W.drew.heap.size W.drew) [.string nm,Ar f.length cr] ⟨nm,f⟩:=⟨Ar,cr,rfl,Cf (lo:=hE) (show W.drew.ownsRow M.heap.size aK 1 (Ar f.length cr) f.length (aC f)from KF) (jW _ _ f (λn hn=>lI (aa n hn))) (by simp) (by omega) (by omega)⟩
          obtain⟨B,d,w9,j,x9,y9,z9,O⟩:=(uB.drew kn.ok).more kn.ok (by omega) LP (by decide) (by decide) (n:=I.length) rfl (by omega) ⟨nm,f⟩ #[.string nm,Ar f.length cr] rfl (by simp[Value.oneCell']) mF;have Yw:(Builtin.append_ #[27,27] 27 #[A4 I.length c4,.slice (W,0) 1 1]).run Tryz.prog (W.alloc (.cells #[.string nm,Ar f.length cr] DX)).drew=.ok (B (I.length+1) d) w9:=j;have H9:=J O;have d4:Hid (∀x∈I++[(⟨nm,f⟩:mS)],(hZ x.gn=true/\∀n∈x.ge,N9 n)/\x.ge.length<=6):=J λz hz=>by
           rw[jp,js]at hz;rcases hz with hz|rfl
           .exact bs z hz
           exact⟨⟨dT,aa⟩,show f.length<=6 by omega⟩
          clear O j mF aL;go_wp2_with fail
          go_region
          all_goals
           go_wp2_with fail
           go_roundw
           case rel=>exact⟨k+1,I++[(⟨nm,f⟩:mS)],B,d,_,_,by omega,by simp,by(rw[la];show I.length+1<=k+1;omega),d4,H9⟩
           case measure=>simp[intOf];omega
         have e0:((x:Int)==0)=false:=by simp;omega
         clear aL;go_wp2_with fail
         have SS:=Yu.out;go_roundw
         case rel=>exact⟨k+1,I,A4,c4,ak,_,(show k+1<=8 from Yu.out),by simp,by omega,bs,uB⟩
         case measure=>simp[intOf];omega
       have d5:I.length<=8:=by omega
       obtain⟨P8,h8,yh,Eh⟩:∃P8 h8,Hid (SG Wf m (eP F7 4 (A4 I.length c4)) vS P8 h8 M)/\Hid (∀v,P8 v->P7 v/\Sl kn 2 v (TR [DX,aK] (m+1) h8 v) A4 I):=⟨_,_,J (s.sg kn.ok (by omega)),J λv h=>⟨h.1.1,h.2⟩⟩
       clear s;have y2:M.cell? ⟨m,2,none⟩=some (.int .i64 u):=yh.b.iB 0 (by omega) ((aZ (by decide)).trans CV.2.2.2.2.2.2.2);have y3:M.cell? ⟨m,3,none⟩=some (L w.length S):=yh.b.iB 1 (by omega) ((aZ (by decide)).trans CV.2.1);have y4:M.cell? ⟨m,4,none⟩=some (Y G.length c2):=yh.b.iB 2 (by omega) ((aZ (by decide)).trans CV.2.2.1);have y5:M.cell? ⟨m,5,none⟩=some (A3 ls.length c3):=yh.b.iB 3 (by omega) ((aZ (by decide)).trans CV.1);have y6:M.cell? ⟨m,6,none⟩=some (A4 I.length c4):=yh.b.iB 4 (by omega) (fG _ _ _);have y7:M.cell? ⟨m,7,none⟩=some (K l.length N):=yh.b.iB 5 (by omega) ((aZ (by decide)).trans CV.2.2.2.2.2.2.1);have y8:M.cell? ⟨m,8,none⟩=some (A6 rg.length c6):=yh.b.iB 6 (by omega) ((aZ (by decide)).trans CV.2.2.2.2.2.1);have y9:M.cell? ⟨m,9,none⟩=some (R D.length T):=yh.b.iB 7 (by omega) ((aZ (by decide)).trans CV.2.2.2.2.1);have fi:M.cell? ⟨m,10,none⟩=some (X E.length Z):=yh.b.iB 8 (by omega) ((aZ (by decide)).trans CV.2.2.2.1);have aM:=yh.low;have Ph:Bk M v.heap.size gI i':=(aM.block _ (by omega)).trans BF;have d6:=run_storeVar_row (P:=Tryz.prog) M v.heap.size gI gI i' #[u,L w.length S,Y G.length c2,A3 ls.length c3,A4 I.length c4,K l.length N,A6 rg.length c6,R D.length T,X E.length Z] Ph (by rw[zJ];rfl) rfl (by simp[Value.oneCell']);have mG:=setRow_heap M v.heap.size i' #[u,L w.length S,Y G.length c2,A3 ls.length c3,A4 I.length c4,K l.length N,A6 rg.length c6,R D.length T,X E.length Z] gI (0,0) Ph;have bv:∀b,b≠v.heap.size->(M.setRow v.heap.size #[u,L w.length S,Y G.length c2,A3 ls.length c3,A4 I.length c4,K l.length N,A6 rg.length c6,R D.length T,X E.length Z]).heap[b]?=M.heap[b]? :=λb hb=>setRow_other M v.heap.size b _ hb
       have p8:=yh.fz.keep _ (M.setRow v.heap.size #[u,L w.length S,Y G.length c2,A3 ls.length c3,A4 I.length c4,K l.length N,A6 rg.length c6,R D.length T,X E.length Z]) yh.fz.now (λb h1 h2=>bv b (by omega));have bw:Below v.heap.size v (M.setRow v.heap.size #[u,L w.length S,Y G.length c2,A3 ls.length c3,A4 I.length c4,K l.length N,A6 rg.length c6,R D.length T,X E.length Z]):=(LF.trans (aM.mono (by omega))).trans ⟨rfl,rfl,rfl,by simp,λb hb=>bv b (by omega)⟩;generalize d7:M.setRow v.heap.size #[u,L w.length S,Y G.length c2,A3 ls.length c3,A4 I.length c4,K l.length N,A6 rg.length c6,R D.length T,X E.length Z]=wE at d6 mG p8 bw;clear d7 bv;obtain⟨p7,s8⟩:=Eh wE p8;obtain⟨p6,s7⟩:=KG wE p7;obtain⟨p5,s6⟩:=yB wE p6;obtain⟨p4,s5⟩:=tN wE p5;obtain⟨p3,s4⟩:=Eg wE p4;obtain⟨p2,s3⟩:=ZY wE p3;obtain⟨p1,s2⟩:=cT wE p2;have s1:=cN wE p1;have aN:yV v (.returned (.agg #[u,L w.length S,Y G.length c2,A3 ls.length c3,A4 I.length c4,K l.length N,A6 rg.length c6,R D.length T,X E.length Z])) wE:=by refine⟨⟨u,w,G,ls,I,l,rg,D,E⟩,[.int .i64 u,L w.length S,Y G.length c2,A3 ls.length c3,A4 I.length c4,K l.length N,A6 rg.length c6,R D.length T,X E.length Z],Pc Tc ⟨bM,cP⟩ cS ⟨ce,dc⟩ ⟨b4,ca⟩ ⟨cm,dl,uU⟩ ⟨bp,bS⟩ ⟨dt,ds⟩ ⟨bs,d5⟩,rfl,?_,bw⟩;exact⟨L,S,Y,c2,A3,c3,A4,c4,K,N,A6,c6,R,T,X,Z,rfl,lI Tc,s5.mono iA.ok (TR.tf (by decide)),s6.mono kO.ok (TR.tf (by decide)),s7.mono jn.ok (TR.tf (by decide)),s8.mono kn.ok (TR.tf (by decide)),s1.mono kI.ok (TR.tf (by decide)),s2.mono ko.ok (TR.tf (by decide)),s3.mono kx.ok (TR.tf (by decide)),s4.mono gS.ok (TR.tf (by decide))⟩
       have KH:=J aN;have d8:=J mG;clear aN mG s1 s2 s3 s4 s5 s6 s7 s8 p1 p2 p3 p4 p5 p6 p7 p8 bw Ph aM;go_wp2_with fail
       exact bodyPost_ret (Un d8 rfl) rfl KH
