/- Lemmas. -/
import Derived.Test.YtkijckccfookeaaGreatDoorU08
set_option linter.unusedVariables false
set_option linter.unusedSimpArgs false
set_option maxRecDepth 100000
set_option maxHeartbeats 32000000
namespace Go.Proofs.YtkijckccfookeaaGreatDoor
section
open Go.RowKit
def TS (ts:List TypeId)(base:Nat)(w:World):Bs:=fun b=>base<=b/\∃cs t,Bk w b t cs/\t∈ts
theorem TS.lt {ts:List TypeId}{base:Nat}{w:World}:∀b,TS ts base w b->b<w.heap.size:=fun b ⟨_,_,_,h,_⟩=>h.lt
theorem TS.mono {ts ts':List TypeId}{base base':Nat}{w:World}(h:∀t∈ts,t∈ts')(hb:base'<=base):∀b,TS ts base w b->TS ts' base' w b:=fun b ⟨h1,cs,t,h2,h3⟩=>⟨by omega,cs,t,h2,h t h3⟩
def Sp (m:Nat)(e:TypeId)(w w':World):Prop:=∃row,w.grownBy w' row/\∀x,row=some x->m<=x/\∃cs,Bk w x e cs
section
variable {m:Nat} {e t:TypeId} {w w':World}
theorem Sp.size (h:Sp m e w w'):w.heap.size<=w'.heap.size:=by obtain⟨row,hg,_⟩:=h;exact hg.size
theorem Sp.bk {g:Nat}{cs:Array Value}(h:Sp m e w w')(hb:Bk w g t cs)(hne:t≠e):Bk w' g t cs:=by
 obtain⟨row,hg,hr⟩:=h;exact(hg.block g hb.lt (fun e'=>by
  obtain⟨-,cs',hk⟩:=hr g e'.symm;exact hne (bU hb hk).1)).trans hb
theorem Sp.own {base size n:Nat}{v:Value}{xs:List Value}(h:Sp m e w w')(ho:w.ownsRow base t size v n xs)(hne:t≠e):w'.ownsRow base t size v n xs:=by
 obtain⟨row,hg,hr⟩:=h;refine ho.kept hg ?_;cases hb:v.ownBlock with
 |none=>exact .inl rfl
 |some g=>exact .inr (fun e'=>by
   obtain⟨-,cs',hk⟩:=hr g e'.symm;obtain⟨cur,hk2⟩:=iG ho g hb;exact hne (bU hk2 hk).1)
theorem Sp.ts {ts:List TypeId}{base:Nat}(h:Sp m e w w')(hts:e ∉ ts):Same (TS ts base w) w w'/\∀b,TS ts base w b->TS ts base w' b:=by
 have key:∀b,TS ts base w b->w'.heap[b]? =w.heap[b]? :=fun b ⟨_,cs,t',hk,ht⟩=>by
  obtain⟨row,hg,hr⟩:=h;exact hg.block b hk.lt (fun e'=>by
   obtain⟨-,cs',hk'⟩:=hr b e'.symm;exact hts ((bU hk hk').1 ▸ ht))
 exact⟨key,fun b hb=>by
  obtain⟨h1,cs,t',hk,ht⟩:=hb;exact⟨h1,cs,t',(key b ⟨h1,cs,t',hk,ht⟩).trans hk,ht⟩⟩
theorem Sp.sl {α:Type}{R:Rel α}(ok:R.Ok){size:Nat}{A:Option Addr}{xs:List α}{ts:List TypeId}{base:Nat}(h:Sp m e w w')(hts:e ∉ ts)(hs:Sl R size w (TS ts base w) A xs):Sl R size w' (TS ts base w') A xs:=hs.moved ok (h.ts hts)
theorem Sp.fl {α:Type}{R:Rel α}(ok:R.Ok){size:Nat}{cells:List Value}{xs:List α}{ts:List TypeId}{base:Nat}(h:Sp m e w w')(hts:e ∉ ts)(hs:Fl R size w (TS ts base w) cells xs):Fl R size w' (TS ts base w') cells xs:=hs.moved ok (h.ts hts)
theorem Sp.rd {A:Option Addr}{n size:Nat}{cs:List Value}(h:Sp m e w w')(hm:m<=w.heap.size)(hr:Rd w m A n size cs):Rd w' m A n size cs:=by obtain⟨row,hg,hx⟩:=h;exact hr.grown hg hm (fun g eg=>(hx g eg).1)
theorem Sp.mk {fs:Nat->Value}{lp:Int}(h:Sp m e w w')(hk:Mk w m fs lp)(hne:mQ≠e):Mk w' m fs lp:=by have hm:=hk.lt;obtain⟨A,n,c,a,zs,h1,h2,h3,h4,h5⟩:=hk;exact⟨A,n,c,a,zs,h.bk h1 hne,h2,h3,h.rd (by omega) h4,h5⟩
theorem Sp.below (hb:Below w.heap.size w w'):Sp m e w w':=⟨none,aB hb none,fun x hx=>by cases hx⟩
theorem Sp.next {fs:Nat->Value}{lp:Int}(hk:Mk w m fs lp)(hv:Mv m w w'):Sp m mQ w w':=⟨some m,hv,fun x hx=>by
 injection hx with hx
 subst hx;obtain⟨A,n,c,a,zs,h1,-⟩:=hk;exact⟨af _,_,h1⟩⟩
theorem Sp.push {base size n:Nat}{v:Value}{xs:List Value}(ho:w.ownsRow base e size v n xs)(hm:m<=base)(hg:w.grownBy w' v.ownBlock):Sp m e w w':=⟨_,hg,fun x hx=>⟨nt hm (ho.lt x hx).1,iG ho x hx⟩⟩
theorem Sp.set {g:Nat}{cs:Array Value}(hb:Bk w g e cs)(hm:m<=g)(j:Nat)(u:Value):Sp m e w (w.setCell ⟨g,j,none⟩ u):=⟨some g,aU (World.grownBy.refl _ _) (.inl rfl) u,fun x hx=>by
 injection hx with hx
 subst hx;exact⟨hm,cs,hb⟩⟩
theorem DJ (m:Nat)(w:World):Mv m w w:=World.grownBy.refl _ _
theorem uM {w0:World}{row:Option Nat}(h:Mv m w0 w)(hg:w.grownBy w' row)(hr:∀x,row=some x->w0.heap.size<=x\/x=m):Mv m w0 w':=
 ⟨hg.os.trans h.os,hg.tape.trans h.tape,hg.output.trans h.output,nt h.size hg.size,fun i hi hne=>(hg.block i (anD hi h.size) (fun e'=>by
  rcases hr i e'.symm with h1|h1
  ·omega
  exact hne (by rw[h1]))).trans (h.block i hi hne)⟩
theorem jS {w0:World}(h:Mv m w0 w)(hb:Below w.heap.size w w'):Mv m w0 w':=uM h (aB hb none) (fun x hx=>by cases hx)
theorem gu {w0:World}(h:Mv m w0 w)(hv:Mv m w w'):Mv m w0 w':=uM h hv (fun x hx=>by injection hx with hx;exact .inr hx.symm)
theorem kK {w0:World}{base size n:Nat}{v:Value}{xs:List Value}(h:Mv m w0 w)(ho:w.ownsRow base e size v n xs)(hb:w0.heap.size<=base)(hg:w.grownBy w' v.ownBlock):Mv m w0 w':=uM h hg (fun x hx=> .inl (nt hb (ho.lt x hx).1))
theorem uV {w0:World}{g:Nat}(h:Mv m w0 w)(hg:w0.heap.size<=g)(j:Nat)(u:Value):Mv m w0 (w.setCell ⟨g,j,none⟩ u):=uM h (aU (World.grownBy.refl _ _) (.inl rfl) u) (fun x hx=>by injection hx with hx;exact .inl (by rw[<-hx];exact hg))
theorem dK {b o:Nat}{u:Value}(hv:Mv m w w')(hne:b≠m)(h:w.cell? ⟨b,o,none⟩=some u):w'.cell? ⟨b,o,none⟩=some u:=by have hb:=World.block_lt_of_cell? w _ h;exact Same.cell (S:=fun x=>x=b) (fun x hx=>by subst hx;exact hv.block x hb (fun e'=>hne (by injection e'))) rfl h
theorem dG {α:Type}{R:Rel α}{size:Nat}{cells:List Value}{xs:List α}{A:Option Addr}{base b0 n c:Nat}{ts:List TypeId}(h:w.ownsRow base e size (.slice A n c) n cells)(hf:Fl R size w (TS ts b0 w) cells xs)(he:e∈ts)(hb:b0<=base)(hsz:0<size):Sl R size w (TS ts b0 w) A xs:=
 Sl.aly h hf (fun g hg=>by
  obtain⟨cur,hk⟩:=iG h g hg;exact⟨by have:=(h.lt g hg).1;omega,cur,e,hk,he⟩) hsz
theorem Sl.ts {α:Type}{R:Rel α}(ok:R.Ok){size:Nat}{A:Option Addr}{xs:List α}{ts ts':List TypeId}{base base':Nat}(h:Sl R size w (TS ts base w) A xs)(hs:∀t∈ts,t∈ts')(hb:base'<=base):Sl R size w (TS ts' base' w) A xs:=h.mono ok (TS.mono hs hb)
end
theorem iJ {e t size:Nat}(E:ElT e t size)(ty:TypeId)(w1:World)(base n c:Nat)(A:Option Addr)(xs:List Value)(news:Array Value)(hnl:news.size=size)(hown:w1.ownsRow base e size (.slice A n c) n xs)(h1:∀u∈news.toList,u.oneCell'=true)(hn:n<=10000000000)(hb:base<=w1.heap.size):
  ∃A' c' w',(Builtin.append_ #[t,t] ty #[.slice A n c,.slice (some ⟨w1.heap.size,0,none⟩) 1 1]).run Tryz.prog (w1.alloc (.cells news e))= .ok (.slice A' (n+1) c') w'/\w'.ownsRow base e size (.slice A' (n+1) c') (n+1) (xs++news.toList)/\w1.grownBy w' (Value.slice A n c).ownBlock/\Loc w1 (.slice A n c) (.slice A' (n+1) c'):=by
 obtain⟨A',c',w',hrun,h2,h3,h4⟩:=vZ E ty (w1.alloc (.cells news e)) base n c A xs (hown.alloc _) (w1.heap.size+1) (some ⟨w1.heap.size,0,none⟩) 1 1 news.toList (Rd.newAt _ _ rfl news e 1 size (by omega)) h1 (by omega) (by simp;omega);refine⟨A',c',w',hrun,h2,⟨h3.os,h3.tape,h3.output,nt (by simp) h3.size,fun i hi hne=> ?_⟩,h4.imp id fun h5 g hg=>by have:=h5 g hg;simp at this;omega⟩;exact(h3.block i (by simp;omega) hne).trans (Below.heap_alloc _ _ _ hi)
end
section
open Go.RowKit
theorem aak (z:Int)(k:Nat)(h:1<=k):∃r:Int,z.tmod (k:Int)=r/\ -(k:Int)<r/\r<k:=by
 refine⟨_,rfl,?_,?_⟩
 ·rw[Int.tmod_eq_emod];have h1:=Int.emod_nonneg z (show(k:Int)≠0 by omega);split
  ·omega
  rename_i hn;have h2:z % (k:Int)≠0:=fun e=>hn (.inr (Int.dvd_of_emod_eq_zero e))
  omega
 exact Int.tmod_lt_of_pos z (by omega)
theorem acf (r:Int)(k:Nat)(h:1<=k)(h0:0<=r):∃x:Nat,r.tmod (k:Int)=x/\x<k:=by
 refine⟨(r % (k:Int)).toNat,?_,?_⟩
 ·rw[Int.tmod_eq_emod_of_nonneg h0,Int.toNat_of_nonneg (Int.emod_nonneg _ (by omega))]
 have:=Int.emod_lt_of_pos r (show(0:Int)<k by omega);have:=Int.emod_nonneg r (show(k:Int)≠0 by omega);omega
def NS (w:World)(m:Nat)(fs:Nat->Value)(lp:Int)(k:Nat)(e:Ending)(w':World):Prop:=∃x:Nat,x<k/\e= .returned (.int .i64 x)/\Mk w' m fs lp/\Mv m w w'
theorem az (w:World)(m:Nat)(fs:Nat->Value)(lp:Int)(k:Nat)(h:Mk w m fs lp)(h1:1<=k)(hk:k<=1000000):
  Calls Tryz.prog 59 #[.pointer (some ⟨m,0,none⟩),.int .i64 k] w (NS w m fs lp k):=by
 obtain⟨A,n,c,a,zs,hb,ha,hn,hr,hz⟩:=h;have HB:=hd0 hb;have HR:=hd0 hr;have HZ:=hd0 hz;have q0:w.cell? ⟨m,0,none⟩=some (.slice A n c):=hb.cell 0;have q1:w.cell? ⟨m,1,none⟩=some (.int .i64 a):=hb.cell 1;have y1:=hb.frozen 1;have zm:=hb.lt;by_cases hlt:a<n
 ·obtain⟨b,o,z,rfl,hbm,hx,q2⟩:=hr.atI hlt;have hzi:=hz z (anC hx.out);obtain⟨r,hr1,hr2,hr3⟩:=aak z k h1;obtain⟨x,hx1,hx2⟩:=acf (r+k) k h1 (by omega);unfold I64 at hzi;clear hb hr hz hx;go_enter Tryz.func59,Tryz.ntmps59
  go_wp2_with fail
  go_quiet (fail)
  go_wp2_with fail
  go_quiet (fail)
  go_wp2_with fail
  go_ret
  refine⟨x,hx2,rfl,?_,aU (jK (World.grownBy.refl _ _) _) (.inl rfl) _⟩;refine⟨some ⟨b,o,none⟩,n,c,a+1,zs,?_,hlt,hn,(HR.out.drewN _).setCell (p:=⟨m,1,none⟩) (af _) _,HZ.out⟩;exact Bk.set (w:=w.drewN _) HB.out 1 (.int .i64 (a+1))
 have e1:decide ((n:Int)<=a)=true:=by simp;omega
 clear hb hr hz;go_enter Tryz.func59,Tryz.ntmps59
 go_wp2_with fail
 go_quiet (fail)
 go_wp2_with fail
 go_ret
 exact⟨0,h1,rfl,⟨A,n,c,a,zs,HB.out,ha,hn,HR.out.drewN _,HZ.out⟩,jK (World.grownBy.refl _ _) _⟩
theorem Vk:∀k:Fin 8,∃s,aG[k.val]? =some s/\jc aG s=(k.val:Int)+1/\bV s=true:=by decide+kernel
theorem TM:∀k:Fin 4,∃s,anchorNames[k.val]? =some s/\jc anchorNames s=(k.val:Int)+1/\bV s=true:=by decide+kernel
theorem J6 (n:Int)(h1:1<=n)(h2:n<=8):jc aG (pick aG n)=n/\bV (pick aG n)=true:=by
 obtain⟨s,e1,e2,e3⟩:=Vk ⟨(n - 1).toNat,by omega⟩;have:pick aG n=s:=by unfold pick;rw[if_neg (by omega)];simp only at e1;rw[e1];rfl
 rw[this];simp only at e2;exact⟨by omega,e3⟩
theorem Ko (n:Int)(h1:1<=n)(h2:n<=4):jc anchorNames (pick anchorNames n)=n/\bV (pick anchorNames n)=true:=by
 obtain⟨s,e1,e2,e3⟩:=TM ⟨(n - 1).toNat,by omega⟩;have:pick anchorNames n=s:=by unfold pick;rw[if_neg (by omega)];simp only at e1;rw[e1];rfl
 rw[this];simp only at e2;exact⟨by omega,e3⟩
section
variable (gl:Gl) (s:PS) (r:List B)
theorem RD:stmt gl s (lI::r)=qh s r:=by simp[stmt]
theorem RI:stmt gl s (uz::r)=xx s r:=by simp[stmt]
theorem JL:stmt gl s (jQ::r)=qW s r:=by simp[stmt]
theorem VJ:stmt gl s (mr::r)=Oi s r:=by simp[stmt]
theorem Rn:stmt gl s (qo::r)=xA s r:=by simp[stmt]
theorem Z9:stmt gl s (yF::r)=kR gl s r:=by simp[stmt]
theorem OD:stmt gl s (dY::r)=iO gl s r:=by simp[stmt]
theorem GG:stmt gl s (fU::r)=jG s r:=by simp[stmt]
theorem RP:stmt gl s (qj::r)=uH gl s r:=by simp[stmt]
theorem KJ:stmt gl s (kM::r)=kL s r:=by simp[stmt]
theorem Oy:stmt gl s (mO::r)=pI s r:=by simp[stmt]
theorem RX:stmt gl s (nO::r)=uG s r:=by simp[stmt]
theorem Ru:stmt gl s (uF::r)=xI gl s r:=by simp[stmt]
theorem JU:stmt gl s (gX::r)=iW s r:=by simp[stmt]
theorem Q8:stmt gl s (dL::r)=fF gl s r:=by simp[stmt]
theorem G8:stmt gl s (jC::r)=qF s r:=by simp[stmt]
end
theorem IY {gl:Gl}{gs:List akN}(h:alB gl gs)(kind:Int)(r:als)(hr:OkR gs.length kind r):∀w∈outW gs kind r,w≠[47]/\w≠[62]/\bV w=true:=by
 have num:∀(n:Int),ah n≠[47]/\ah n≠[62]/\bV (ah n)=true:=fun n=>⟨fun e=>by
  have:=qH n 47 (by rw[e];simp)
  revert this
  decide,fun e=>by
  have:=qH n 62 (by rw[e];simp)
  revert this
  decide,rU n⟩
 intro w hw;unfold outW at hw;split at hw
 ·rw[anZ] at hw;obtain⟨n,hn,rfl⟩:=hw;have h1:=(zu h (hr.out n hn)).2;have:=IR h1;exact⟨this.2.2.1,this.2.2.2,qI h1⟩
 split at hw
 ·rw[anZ] at hw;obtain⟨c,hc,rfl⟩:=hw;have Vl:(58:UInt8)∈ah c.at'++58::ah c.lookup:=by simp
  refine⟨fun e=> ?_,fun e=> ?_,(JO c (hr.calls c hc) 0).2.2.2⟩
  ·rw[e] at Vl;revert Vl;decide
  rw[e] at Vl;revert Vl;decide
 split at hw
 ·simp only[anu] at hw;subst hw;exact num r.x
 simp at hw
def Dv (gs:List akN)(ws:List B)(l:List (List Int)):Prop:=(∀w∈ws,w≠[47]/\w≠[62])/\eP ws=some (l.map (fun s=>s.map (cO gs)))
theorem XP {gl:Gl}{gs:List akN}(h:alB gl gs)(hn:gs.length<=1000)(s:PS)(lk:Lookup)(hl:s.f.akK.getLast? =some lk)(hk:1<=lk.kind/\lk.kind<=8)(r:als)(hr:OkR gs.length lk.kind r)
  (u0 u1 u2:List B) (h0:Dv gs u0 r.back) (h1:Dv gs u1 r.in') (h2:Dv gs u2 r.ahead):
  fF gl s (u0++[47]::u1++[47]::u2++[62]::outW gs lk.kind r)= .ok (lV s fun lk=> {lk with rules:=lk.rules++[r]}):=by
 have hi:∀l:List (List Int),(∀x∈l,Ox gs.length x)->(∀x∈l,∀n∈x,In gs.length n)/\(∀x∈l,(∀n∈x,In gs.length n)/\x.length<=1000)/\l.map setOf=l:=fun l hl=>by
  refine⟨fun x hx=>(hl x hx).2,fun x hx=>⟨(hl x hx).2,nt (Si (hl x hx)) hn⟩,?_⟩
  conv=>rhs;rw[<-List.map_id l]
  exact List.map_congr_left (fun x hx=>OL x (hl x hx).1)
 obtain⟨a1,a2,a3⟩:=hi _ hr.back;obtain⟨b1,b2,b3⟩:=hi _ hr.in';obtain⟨c1,c2,c3⟩:=hi _ hr.ahead;have hp:pM (u0++[47]::u1++[47]::u2++[62]::outW gs lk.kind r)=some [u0,u1,u2,outW gs lk.kind r]:=Y0 _ _ _ _ h0.1 h1.1 h2.1 (fun w hw=>⟨(IY h _ r hr w hw).1,(IY h _ r hr w hw).2.1⟩);unfold fF;simp only[hl,hp,h0.2,h1.2,h2.2,wH h s.cls _ a2,wH h s.cls _ b2,wH h s.cls _ c2,anB,a3,b3,c3];clear h0 h1 h2 hp;obtain⟨q1,q2⟩:=abQ h r.out hr.out 0;obtain⟨d1,d2,d3,-⟩:=SL r.calls hr.calls 0;have x1:=gU r.x hr.x 0;have x2:=(eG r.x hr.x).2;have hcases:lk.kind=1\/lk.kind=2\/lk.kind=3\/lk.kind=4\/lk.kind=5\/lk.kind=6\/lk.kind=7\/lk.kind=8:=by omega
 have hone:=hr.one;have GZ:=hr.outs;have Bc:=hr.noC;have Ce:=hr.noX;have hin:=hr.in';cases r with
 |mk rb ri ra ro rc rx=>
 simp only at*
 rcases hcases with e|e|e|e|e|e|e|e<;>rw[e] at hone GZ Bc Ce ⊢
 case inl=>obtain⟨t,rfl,ht⟩:=hone (by simp);have hs:=(hin t (by simp)).1;simp[eu,outW,q1,q2,Cc t ro hs ht,Bc,Ce]
 case inr.inl=>simp[eu,outW,q1,q2,Bc,Ce]
 case inr.inr.inl=>simp[eu,outW,q1,q2,Bc,Ce]
 case inr.inr.inr.inl=>have:=GZ (by simp);subst this;simp[eu,outW,d1,d2,d3,Ce]
 case inr.inr.inr.inr.inl=>obtain⟨t,rfl,ht⟩:=hone (by simp);have hs:=(hin t (by simp)).1;simp[eu,outW,q1,q2,Cc t ro hs ht,Bc,Ce]
 case inr.inr.inr.inr.inr.inl=>have:=GZ (by simp);subst this;simp[eu,outW,fD,x1,x2,Bc]
 case inr.inr.inr.inr.inr.inr.inl=>have:=GZ (by simp);subst this;simp[eu,outW,Bc,Ce]
 case inr.inr.inr.inr.inr.inr.inr=>have:=GZ (by simp);subst this;simp[eu,outW,Bc,Ce]
theorem aaf {gl:Gl}{gs:List akN}(h:alB gl gs)(l:List (List Int))(hl:∀s∈l,∀n∈s,In gs.length n):Dv gs (di gs l) l:=⟨fun w hw=>⟨(zt h _ hl w hw).1,(zt h _ hl w hw).2.1⟩,YI h _ hl⟩
end
section
open Go.RowKit
theorem Wu {w:World}{l:List (String×DataW Unit)}(h:laidMet Tryz.prog l w)
  (m1:("fleuron/unparse.opNames",Rows.laid_fleuron_unparse_opNames)∈l) (m2:("fleuron/unparse.anchorNames",Rows.laid_fleuron_unparse_anchorNames)∈l) (m3:("fleuron/unparse.lookupNames",Rows.laid_fleuron_unparse_lookupNames)∈l)
  (m4:("internal/strconv.uint64pow10",Rows.laid_internal_strconv_uint64pow10)∈l):Tabs w:=
 ⟨qX (jL h m1) (by kernel_rfl) (by kernel_rfl) Tryz.underlying144 Tryz.underlying9 (by kernel_rfl) (by kernel_rfl),
 qX (jL h m2) (by kernel_rfl) (by kernel_rfl) Tryz.underlying205 Tryz.underlying9 (by kernel_rfl) (by kernel_rfl),
 qX (jL h m3) (by kernel_rfl) (by kernel_rfl) Tryz.underlying206 Tryz.underlying9 (by kernel_rfl) (by kernel_rfl),
 W9 (k:= .u64) (zs:=Lib.pow10Tab) (jL h m4) (by kernel_rfl) (by kernel_rfl) Tryz.underlying267 Tryz.underlying146 (by kernel_rfl) (by kernel_rfl)⟩
theorem V5 {w:World}{l:List (String×DataW Unit)}(h:laidMet Tryz.prog l w)(m1:("math/bits.deBruijn64tab",Rows.laid_math_bits_deBruijn64tab)∈l):nG≤w.heap.size:=
 VR (jL h m1) (by kernel_rfl)
theorem ui (w:World)(s:B)(c:UInt8):Calls Tryz.prog 167 #[.string ⟨s.toArray⟩,.string ⟨#[c]⟩] w fun e w'=>e= .returned (.int .i64 ((Lib.countByte s c:Nat):Int))/\w=w':=(Tryz.strings_Count_one ⟨s.toArray⟩ c w).mono fun _ _ ⟨h1,h2⟩=>⟨h1,h2.symm⟩
theorem zF (w:World)(s:B)(c:UInt8):Calls Tryz.prog 162 #[.string ⟨s.toArray⟩,.string ⟨#[c]⟩] w fun e w'=>e= .returned (.int .i64 (Lib.indexByte s c))/\w=w':=(Tryz.strings_Index_one ⟨s.toArray⟩ c w).mono fun _ _ ⟨h1,h2⟩=>⟨h1,h2.symm⟩
def Me (t:B):Bool:=decide (t.count 58<=1)
def DR (t:B):Bool:=t.count 58==1
theorem TW (w:World)(t:B):Calls Tryz.prog 166 #[.string ⟨t.toArray⟩] w fun e w'=>e= .returned (.bool (Me t))/\w=w':=by
 have hd:Hid (decide (((Lib.countByte t 58:Nat):Int)<=1)=Me t):=by show _=_;rw[Me,Lib.countByte];exact decide_eq_decide.2 (by omega)
 go_enter Tryz.func166,Tryz.ntmps166
 go_wp2_with (go_at_call 167;refine(ui _ t 58).mono ?_;rintro e w' ⟨rfl,rfl⟩)
 go_ret
 exact⟨by rw[<-hd.out];simp,rfl⟩
theorem OE (w:World)(t:B):Calls Tryz.prog 186 #[.string ⟨t.toArray⟩] w fun e w'=>e= .returned (.bool (DR t))/\w=w':=by
 have hd:Hid ((((Lib.countByte t 58:Nat):Int)==1)=DR t):=by show _=_;rw[DR,Lib.countByte,Bool.eq_iff_iff,beq_iff_eq,beq_iff_eq];omega
 go_enter Tryz.func186,Tryz.ntmps186
 go_wp2_with (go_at_call 167;refine(ui _ t 58).mono ?_;rintro e w' ⟨rfl,rfl⟩)
 go_ret
 exact⟨by rw[<-hd.out];try simp,rfl⟩
theorem Y8 (s:B)(c:UInt8):c ∉ dh c s:=by
 induction s with
 |nil=>simp[dh]
 |cons d r ih=>
  by_cases hd:d=c
  ·subst hd;simp[dh]
  have:dh c (d::r)=d::dh c r:=by show List.takeWhile (· !=c) (d::r)=_;rw[List.takeWhile_cons_of_pos (p:=fun x=>x !=c) (by simpa using hd)];rfl
  rw[this,anG];rintro(e|e)
  ·exact hd e.symm
  exact ih e
theorem acl (s:B)(c:UInt8)(h:hasB c s=true):s.idxOf c=(dh c s).length:=by
 obtain⟨h1,h2⟩:=NF s c h;have hn:=Y8 s c
 conv=>lhs;rw[h2]
 rw[List.idxOf_append,if_neg hn];simp
theorem Lr (w:World)(t:B)(ht:t.length<=100000000):Calls Tryz.prog 170 #[.string ⟨t.toArray⟩] w fun e w'=>e= .returned (.bool (lL t))/\w=w':=by
 have hge:=Lib.indexByte_ge t 42;by_cases hc:Lib.countByte t 44=1
 ·have hc1:t.count 44=1:=hc;cases hs:hasB 42 t with
  |false=>
   have hi:=hd0 (aaV t 42 hs);have hp:Hid (lL t=true):=by show _=_;have:t.contains 42=false:=hs;rw[lL,hc1,this];rfl
   have HC:=hd0 hc;clear hc hc1 hs hge ht;go_enter Tryz.func170,Tryz.ntmps170
   go_wp2_with (first
    |(go_at_call 162;refine(zF _ t 42).mono ?_;rintro e w' ⟨rfl,rfl⟩;rw[hi.out])
    |(go_at_call 167;refine(ui _ t 44).mono ?_;rintro e w' ⟨rfl,rfl⟩;rw[HC.out]))
   go_ret
   exact⟨by rw[hp.out];rfl,rfl⟩
  |true=>
   obtain⟨h1,h2⟩:=NF t 42 hs;have hi:=hd0 h1;have hx:=acl t 42 hs;have hlt:(dh 42 t).length<t.length:=by
    conv=>rhs;rw[h2]
    simp
   have HC:=hd0 hc;have hcon:t.contains 42=true:=hs;by_cases he:(dh 42 t).length+1=t.length
   ·have hp:Hid (lL t=true):=by
     show _=_;rw[lL,hc1,hcon,hx];simp;omega
    have e1:(((dh 42 t).length:Int)==(t.length:Int) - 1)=true:=by simp;omega
    clear hc hc1 hs h1 h2 hx hge he hcon;generalize (dh 42 t).length=a at*
    go_enter Tryz.func170,Tryz.ntmps170
    go_wp2_with (first
     |(go_at_call 162;refine(zF _ t 42).mono ?_;rintro e w' ⟨rfl,rfl⟩;rw[hi.out])
     |(go_at_call 167;refine(ui _ t 44).mono ?_;rintro e w' ⟨rfl,rfl⟩;rw[HC.out]))
    go_ret
    exact⟨by rw[hp.out];rfl,rfl⟩
   have hp:Hid (lL t=false):=by show _=_;rw[lL,hc1,hcon,hx];simp;omega
   have e1:(((dh 42 t).length:Int)==(t.length:Int) - 1)=false:=by simp;omega
   clear hc hc1 hs h1 h2 hx hge he hcon;generalize (dh 42 t).length=a at*
   go_enter Tryz.func170,Tryz.ntmps170
   go_wp2_with (first
    |(go_at_call 162;refine(zF _ t 42).mono ?_;rintro e w' ⟨rfl,rfl⟩;rw[hi.out])
    |(go_at_call 167;refine(ui _ t 44).mono ?_;rintro e w' ⟨rfl,rfl⟩;rw[HC.out]))
   go_ret
   exact⟨by rw[hp.out];rfl,rfl⟩
 have hp:Hid (lL t=false):=by
  show _=_;have:(t.count 44==1)=false:=by simpa [Lib.countByte] using hc
  rw[lL,this];rfl
 have e1:(((Lib.countByte t 44:Nat):Int)==1)=false:=by simp;omega
 clear hc;generalize Lib.indexByte t 42=z at*
 go_enter Tryz.func170,Tryz.ntmps170
 go_wp2_with (first
  |(go_at_call 162;refine(zF _ t 42).mono ?_;rintro e w' ⟨rfl,rfl⟩)
  |(go_at_call 167;refine(ui _ t 44).mono ?_;rintro e w' ⟨rfl,rfl⟩))
 go_ret
 exact⟨by rw[hp.out];rfl,rfl⟩
theorem uw {ws:List P3}{k:Nat}{x y:Int}{z:B}(h:ws[k]? =some (x,y,z)):(x,y,z)∈ws:=anC h
theorem ZH (ws:List P3)(pr:B->Bool)(k:Nat)(x y:Int)(z:B)(h:ws[k]? =some (x,y,z))(ha:(ws.take k).all (fun x=>pr x.2.2)=true):(ws.take (k+1)).all (fun x=>pr x.2.2)=pr z:=by obtain⟨hk,hg⟩:=anv.1 h;rw[anK hk,List.all_append,ha,hg];simp
theorem aeU (ws:List P3)(pr:B->Bool)(k:Nat)(x y:Int)(z:B)(h:ws[k]? =some (x,y,z))(hz:pr z=false):ws.all (fun x=>pr x.2.2)=false:=by rw[List.all_eq_false];exact⟨_,anC h,by simpa using hz⟩
theorem yj (F:Nat)(pr:B->Bool)(hE:∀(args:Array Value) (w:World),(callFunc F args).run Tryz.prog w= .ok (.enter F args) w)(hF:∀(w:World) (t:B),t.length<=100000000->Calls Tryz.prog F #[.string ⟨t.toArray⟩] w fun e w'=>e= .returned (.bool (pr t))/\w=w')
  (w:World) (A:Option Addr) (n c:Nat) (ws:List P3) (hr:RdT w 124 A n 3 (dD ws)) (hl:∀x∈ws,x.2.2.length<=100000000) (hn:n<=1000000000):
  Calls Tryz.prog 165 #[.slice A n c,.func (.func F) #[] #[]] w fun e w'=>e= .returned (.bool (ws.all (fun x=>pr x.2.2)))/\Below w.heap.size w w':=by
 have hwl:=hd0 hr.rd.alH;go_enter Tryz.func165,Tryz.ntmps165
 go_wp2;go_loopw [9] (fun i wr=>∃k:Nat,k<=n/\i= .int .i64 k/\Hid ((ws.take k).all (fun x=>pr x.2.2)=true)/\Below w.heap.size w wr) (fun i _=>n - (intOf i).toNat)
 case atStart=>exact⟨0,nz _,rfl,rfl,ant _ _⟩
 case round=>
  obtain⟨k,hk,rfl,hall,hbl⟩:=hrel;by_cases hlt:k<n
  ·obtain⟨b,o,x,y,z,rfl,hbB,hp,q1,q2,q3⟩:=(hr.below hbl).rd.at3 hlt;have hz:z.length<=100000000:=hl _ (uw hp.out);have hF1:=hd0 (fun w=>hF w z hz);cases hpr:pr z with
   |true=>
    have hs:=hd0 ((ZH ws pr k x y z hp.out hall.out).trans hpr);have hpr:=hd0 hpr;clear hz hp hall hF hl;go_wp2_with (refine(hF1.out _).mono ?_;rintro e w' ⟨rfl,rfl⟩;rw[hpr.out])
    go_roundw
    case rel=>exact⟨k+1,by omega,by simp,hs.out,hbl.alloc hbl.size _⟩
    case measure=>simp[intOf];omega
   |false=>
    have hs:=hd0 (aeU ws pr k x y z hp.out hpr);have hpr:=hd0 hpr;clear hz hp hall hF hl;go_wp2_with (refine(hF1.out _).mono ?_;rintro e w' ⟨rfl,rfl⟩;rw[hpr.out])
    go_ret
    exact⟨by rw[hs.out];rfl,hbl.alloc hbl.size _⟩
  obtain rfl:k=n:=by omega
  have hs:Hid (ws.all (fun x=>pr x.2.2)=true):=by
   show _=_;have:=hall.out
   rwa [anN (by rw[hwl.out];exact af _)] at this
  go_wp2;go_ret
  exact⟨by rw[hs.out];rfl,hbl⟩
theorem KL (w:World)(A:Option Addr)(n c:Nat)(ws:List P3)(hr:RdT w 124 A n 3 (dD ws))(hl:∀x∈ws,x.2.2.length<=100000000)(hn:n<=1000000000):
  Calls Tryz.prog 125 #[.slice A n c] w fun e w'=>e= .returned (.bool (ws.all (fun x=>Me x.2.2)))/\Below w.heap.size w w':=by
 have hc:=hd0 (yj 166 Me (fun _ _=>enters_of Tryz.func166 (by kernel_rfl) rfl _ _) (fun w t _=>TW w t) w A n c ws hr hl hn);clear hr hl hn;go_enter Tryz.func125,Tryz.ntmps125
 go_wp2_with (go_at_call 165;refine hc.out.mono ?_;rintro e w' ⟨rfl,hb⟩)
 go_ret
 exact⟨rfl,hb⟩
theorem PT (w:World)(A:Option Addr)(n c:Nat)(ws:List P3)(hr:RdT w 124 A n 3 (dD ws))(hl:∀x∈ws,x.2.2.length<=100000000)(hn:n<=1000000000):
  Calls Tryz.prog 172 #[.slice A n c] w fun e w'=>e= .returned (.bool (ws.all (fun x=>DR x.2.2)))/\Below w.heap.size w w':=by
 have hc:=hd0 (yj 186 DR (fun _ _=>enters_of Tryz.func186 (by kernel_rfl) rfl _ _) (fun w t _=>OE w t) w A n c ws hr hl hn);clear hr hl hn;go_enter Tryz.func172,Tryz.ntmps172
 go_wp2_with (go_at_call 165;refine hc.out.mono ?_;rintro e w' ⟨rfl,hb⟩)
 go_ret
 exact⟨rfl,hb⟩
theorem OG (w:World)(A:Option Addr)(n c:Nat)(ws:List P3)(hr:RdT w 124 A n 3 (dD ws))(hl:∀x∈ws,x.2.2.length<=100000000)(hn:n<=1000000000):
  Calls Tryz.prog 130 #[.slice A n c] w fun e w'=>e= .returned (.bool (ws.all (fun x=>lL x.2.2)))/\Below w.heap.size w w':=by
 have hc:=hd0 (yj 170 lL (fun _ _=>enters_of Tryz.func170 (by kernel_rfl) rfl _ _) (fun w t ht=>Lr w t ht) w A n c ws hr hl hn);clear hr hl hn;go_enter Tryz.func130,Tryz.ntmps130
 go_wp2_with (go_at_call 165;refine hc.out.mono ?_;rintro e w' ⟨rfl,hb⟩)
 go_ret
 exact⟨rfl,hb⟩
end
section
open Go.RowKit Go.Sort
theorem abr (n:Int):(lH n).length<=6:=by
 unfold lH pick;split
 ·simp
 have:∀s∈opNames,s.length<=6:=by decide
 cases h:opNames[(n - 1).toNat]? with
 |none=>simp
 |some s=>exact this s (anC h)
theorem Xw (x:Ins)(h:x.a=0):dC x=lH x.op:=by simp[dC,h]
theorem X4 (x:Ins)(h:x.a≠0):dC x=lH x.op++58::ah x.a:=by simp[dC,h]
theorem xu (w:World)(A:Option Addr)(c:Nat)(l:List Ins)(hT:Tabs w)(hA:Sl akZ 2 w (FT w) A l)(hl:l.length<=100000000000):
  Calls Tryz.prog 45 #[.slice A l.length c] w (fV w (l.map dC)):=by
 go_enter Tryz.func45,Tryz.ntmps45
 go_wp2;go_loopw [3,9] (fun v i wr=>∃k:Nat,k<=l.length/\i= .int .i64 k/\alA w ((l.take k).map dC) v wr) (fun _ i _=>l.length - (intOf i).toNat)
 case atStart=>exact⟨0,nz _,rfl,by simpa using alA.nil w⟩
 case round=>
  obtain⟨k,hk,rfl,A3,c3,rfl,hown,hbl⟩:=hrel;have hlk:((l.take k).map dC).length=k:=by simp;omega
  by_cases hlt:k<l.length
  ·obtain⟨b,o,x,rfl,-,hx,q0,q1,r0,r1⟩:=((KP.below hbl).sl akZ.ok hA).ins hlt;have HS:=hd0 (mW dC l k x hx.out);have HL:=hd0 hlk;generalize hws:(l.take k).map dC=ws at*
   have s0:=hbl.size;have hll:ws.length<=1000000000000:=by rw[HL.out];omega
   have hb0:Below wr.heap.size wr (wr.alloc (.cells #[.int .i64 x.op,.int .i64 x.a] 61)):=(ant _ _).alloc (af _) _;have hT1:Tabs (wr.alloc (.cells #[.int .i64 x.op,.int .i64 x.a] 61)):=(hT.all hbl).all hb0;have ho:=hd0 (LC _ x.op hT1);have hn:=hd0 (aX _ x.a hT1 r1);have Hb0:=hd0 hb0;have hol:=abr x.op;have hil:=uu r1;by_cases h0:x.a=0
   ·have HI:=hd0 (Xw x h0);have e1:(x.a==0)=true:=by simp[h0]
    have e2:(x.a !=0)=false:=by simp[h0]
    clear hb0 hx r0 r1 hws hlk hT1 h0 hn;go_wp2_with (first
     |(go_at_call 37;refine ho.out.mono ?_;rintro e w' ⟨rfl,rfl⟩)
     |(at_builtin;refine JP rfl (.tmp 25) (.tmp 27) rfl _ (wr.heap.size+1) (World.size_alloc _ _) w.heap.size ws.length c3 A3 (strs ws) (lH x.op) rfl rfl (hown.alloc _) hll (by simp;omega) ?_;intro A4 c4 w2 ho2 hg2))
    go_roundw
    case rel=>exact⟨k+1,by omega,by simp,alA.next hbl Hb0.out hown (us:=[lH x.op]) ho2 hg2 (by rw[HS.out,HI.out])⟩
    case measure=>simp[intOf];omega
   have HI:=hd0 (X4 x h0);have e1:(x.a==0)=false:=by simp[h0]
   have e2:(x.a !=0)=true:=by simp[h0]
   have a1:(ByteArray.mk #[58])++⟨(ah x.a).toArray⟩=⟨(58::ah x.a).toArray⟩:=qi [58] _;have a2:(ByteArray.mk (lH x.op).toArray)++⟨(58::ah x.a).toArray⟩=⟨(lH x.op++58::ah x.a).toArray⟩:=qi _ _;clear hb0 hx r0 r1 hws hlk hT1 h0;go_wp2_with (first
    |(go_at_call 37;refine ho.out.mono ?_;rintro e w' ⟨rfl,rfl⟩)
    |(go_at_call 42;refine hn.out.mono ?_;rintro e w1 ⟨rfl,hb1⟩;have hb2:Below wr.heap.size wr w1:=Hb0.out.trans (hb1.mono Hb0.out.size);have s1:=hb2.size)
    |(at_builtin;refine bI rfl (.tmp 25) (.tmp 27) rfl _ w.heap.size ws.length c3 A3 (strs ws) (lH x.op++58::ah x.a) rfl rfl (own_below hown hb2) hll (by omega) ?_;intro A4 c4 w2 ho2 hg2))
   go_roundw
   case rel=>exact⟨k+1,by omega,by simp,alA.next hbl hb2 hown (us:=[lH x.op++58::ah x.a]) ho2 hg2 (by rw[HS.out,HI.out])⟩
   case measure=>simp[intOf];omega
  obtain rfl:k=l.length:=by omega
  have HL:Hid ((l.take l.length).map dC=l.map dC):=by show _=_;rw[anA]
  generalize hws:(l.take l.length).map dC=ws at*
  clear hws hlk;go_wp2;go_ret
  rw[<-HL.out];exact⟨A3,c3,rfl,hown,hbl⟩
theorem aaD (gs:List akN)(n:Int):setW gs [n]=[cO gs n]:=rfl
theorem JX (gs:List akN)(l:List Int)(h:l.length≠1):setW gs l=[91]::l.map (cO gs)++[[93]]:=by
 unfold setW;split
 ·simp at h
 rfl
theorem OJ {α:Type}(f:α->List B)(l:List α)(k:Nat):((l.take k).flatMap f).length<=(l.flatMap f).length:=by
 conv=>rhs;rw[<-an1 k l]
 simp only[an2,la];omega
theorem Ei {α:Type}(f:α->List B)(l:List α)(k:Nat)(x:α)(h:l[k]? =some x):((l.take k).flatMap f).length+(f x).length<=(l.flatMap f).length:=by have:=OJ f l (k+1);rw[bM f l k x h,la] at this;exact this
theorem FH (w:World)(g:Nat)(gs:List akN)(A:Option Addr)(c:Nat)(l:List (List Int))(hT:Tabs w)(hP:PN w g gs)(hgl:gs.length<=1000000000000)(hA:Sl akM 1 w (FT w) A l)(hl:l.length<=100000000000)(hsl:(di gs l).length<=10000000000):
  Calls Tryz.prog 146 #[.pointer (some ⟨g,0,none⟩),.slice A l.length c] w (fV w (di gs l)):=by
 go_enter Tryz.func146,Tryz.ntmps146
 go_wp2;go_loopw [5,10] (fun v i wr=>∃k:Nat,k<=l.length/\i= .int .i64 k/\alA w ((l.take k).flatMap (setW gs)) v wr) (fun _ i _=>l.length - (intOf i).toNat)
 case atStart=>exact⟨0,nz _,rfl,by simpa using alA.nil w⟩
 case round=>
  obtain⟨k,hk,rfl,A3,c3,rfl,hown,hbl⟩:=hrel;by_cases hlt:k<l.length
  ·obtain⟨b,o,x,A1,c1,rfl,-,hx,q9,hA0⟩:=hA.row hlt;have q0:=ae hbl q9;have hA1:=(KP.below hbl).sl akL.ok hA0;have HS:=hd0 (bM (setW gs) l k x hx.out);have hwl:=Ei (setW gs) l k x hx.out;have hl2:(l.flatMap (setW gs)).length<=10000000000:=hsl;generalize hws:(l.take k).flatMap (setW gs)=ws at*
   have s0:=hbl.size;by_cases h1:x.length=1
   ·obtain⟨n,rfl⟩:∃n,x=[n]:=by
     match x,h1 with
     |[n],_=>exact⟨n,rfl⟩
    obtain⟨b1,o1,y,rfl,-,hy,q1,r1⟩:=hA1.int (k:=0) (by simp);obtain rfl:n=y:=by have:=hy.out;simpa using this
    rw[Nat.add_zero] at q1;have hn:=hd0 (Ak wr g gs n (hT.all hbl) r1 (hP.below hbl) hgl);have hll:ws.length<=1000000000000:=by omega
    clear hx hws hA1 h1 hy r1 hwl hl2;simp only[aT,ln,aoc] at q0;go_wp2_with (first
     |(go_at_call 47;refine hn.out.mono ?_;rintro e w1 ⟨rfl,hb1⟩;have s1:=hb1.size)
     |(at_builtin;refine bI rfl (.tmp 17) (.tmp 23) rfl w1 w.heap.size ws.length c3 A3 (strs ws) (cO gs n) rfl rfl (own_below hown hb1) hll (by omega) ?_;intro A4 c4 w2 ho2 hg2))
    go_roundw
    case rel=>exact⟨k+1,by omega,by simp,alA.next hbl hb1 hown (us:=[cO gs n]) ho2 hg2 (by rw[HS.out,aaD])⟩
    case measure=>simp[intOf];omega
   have HW:=hd0 (JX gs x h1);have hxl:ws.length+x.length+2<=10000000000:=by rw[HW.out] at hwl;simp only[la,aT,anB,ln] at hwl;omega
   have e1:(x.length==1)=false:=by simpa using h1
   have e2:((x.length:Int)==1)=false:=by simp;omega
   have hN0:alK w ws ws.length A3 c3 wr:=⟨rfl,hown,hbl⟩
   clear hx hws hwl hl2 h1 hA1 q9;go_wp2_with (first
    |(at_builtin;refine bI rfl (.tmp 25) (.tmp 26) rfl wr w.heap.size ws.length c3 A3 (strs ws) [91] rfl rfl hown (by omega) (by omega) ?_;intro A4 c4 w2 ho2 hg2;have Xg:=hN0.next (us:=[[91]]) (ant _ _) ho2 hg2;have hb2:=Xg.2.2;have s2:=hb2.size)
    |(go_at_call 147;refine(OX w2 g gs A1 c1 x (hT.all hb2) (hP.below hb2) hgl ((KP.below hb2).sl akL.ok hA0) (by omega)).mono ?_;rintro e w3 ⟨A5,c5,rfl,ho3,hb3⟩;have s3:=hb3.size;have nY:=gG ho3 (anB (cO gs)))
    |(at_builtin;refine fM rfl (.tmp 28) (.tmp 31) rfl w3 w.heap.size (ws.length+1) c4 A4 _ w3.heap.size A5 x.length c5 (x.map (cO gs)) rfl rfl (own_below ho2 hb3) nY (by omega) (by omega) ?_;intro A6 c6 w4 fJ hg4;have EH:=Xg.next (us:=x.map (cO gs)) hb3 (by rw[zN];exact fJ) hg4;have s4:=EH.2.2.size)
    |(at_builtin;refine bI rfl (.tmp 33) (.tmp 34) rfl w4 w.heap.size _ c6 A6 _ [93] rfl rfl fJ (by omega) (by omega) ?_;intro A7 c7 w5 xN hg5;have hN5:=EH.next (us:=[[93]]) (ant _ _) (by rw[zN,zN];exact xN) hg5))
   go_roundw
   case rel=>exact⟨k+1,by omega,by simp,by rw[HS.out,HW.out];simpa using hN5.s⟩
   case measure=>simp[intOf];omega
  obtain rfl:k=l.length:=by omega
  have HL:Hid ((l.take l.length).flatMap (setW gs)=di gs l):=by show _=_;rw[anA];rfl
  generalize hws:(l.take l.length).flatMap (setW gs)=ws at*
  clear hws;go_wp2;go_ret
  rw[<-HL.out];exact⟨A3,c3,rfl,hown,hbl⟩
end
section
open Go.RowKit
def ak5 (gl:Gl)(s:PS)(L:List (List B))(s':PS):Prop:=XC L/\∀n,stmts gl s (oK n L)= .ok s'
theorem ak5.nil (gl:Gl)(s:PS):ak5 gl s [] s:=⟨fun l hl=>by simp at hl,fun _=>rfl⟩
theorem ak5.cons {gl:Gl}{s s' s'':PS}{l:List B}{L:List (List B)}(hl:l≠[]/\∀w∈l,bV w=true)(h:stmt gl s l= .ok s')(k:ak5 gl s' L s''):ak5 gl s (l::L) s'':=by
 refine⟨fun x hx=> ?_,fun n=> ?_⟩
 ·rw[anG] at hx;rcases hx with rfl|hx
  ·exact hl
  exact k.1 x hx
 rw[oK,stmts,h];exact k.2 _
theorem ak5.app {gl:Gl}{s s' s'':PS}{a b:List (List B)}(h:ak5 gl s a s')(k:ak5 gl s' b s''):ak5 gl s (a++b) s'':=by
 refine⟨fun x hx=> ?_,fun n=> ?_⟩
 ·rw[anz] at hx;rcases hx with hx|hx
  ·exact h.1 x hx
  exact k.1 x hx
 rw[Xp,Cb,h.2 n];exact k.2 _
theorem ak5.one {gl:Gl}{s s':PS}{l:List B}(hl:l≠[]/\∀w∈l,bV w=true)(h:stmt gl s l= .ok s'):ak5 gl s [l] s':= .cons hl h (.nil _ _)
theorem ak5.ams {α:Type}{gl:Gl}(l:List α)(lines:α->List (List B))(st:List α->PS)(h:∀done x rest,l=done++x::rest->ak5 gl (st done) (lines x) (st (done++[x]))):ak5 gl (st []) (l.flatMap lines) (st l):=by
 suffices key:∀rest done,l=done++rest->ak5 gl (st done) (rest.flatMap lines) (st l) from key l [] rfl
 intro rest;induction rest with
 |nil=>intro done e;simp at e;subst e;exact .nil _ _
 |cons x r ih=>intro done e;rw[anM];exact(h done x r e).app (ih (done++[x]) (by simp[e]))
theorem ak5.each {α:Type}{gl:Gl}(l:List α)(line:α->List B)(st:List α->PS)(hl:∀x∈l,line x≠[]/\∀w∈line x,bV w=true)(h:∀done x rest,l=done++x::rest->stmt gl (st done) (line x)= .ok (st (done++[x]))):ak5 gl (st []) (l.map line) (st l):=by
 have e:l.map line=l.flatMap (fun x=>[line x]):=by
  clear hl h;induction l with
  |nil=>rfl
  |cons x r ih=>simp[ih]
 rw[e];exact ak5.ams l _ st fun done x rest hx=> .one (hl x (by simp[hx])) (h done x rest hx)
def AQ (a:alG):List B:=[uz,a.name,ah a.min',ah a.alI,ah a.max']
def Bl (r:Region):List B:=jQ::r.ak1.flatMap kz
def Pj (p:List Ins):List B:=qo::p.map dC
def AB (gs:List akN)(c:Chr):List B:=[uF,ah c.rune,cO gs c.akY]
def EJ (x:alo):List B:=jC::x.name::x.akK.map ah
def Oh (l:Lookup):List B:=gX::pick aG l.kind::if l.alr then [eU] else []
def Q5 (c:List Pt):List B:=fU::c.map jq
def ES (gs:List akN)(p:Part):List B:=[qj,cO gs p.akY,ah p.x,ah p.y]
def EK (a:ak7):List B:=[kM,pick anchorNames a.kind,ah a.cls,ah a.x,ah a.y]
def ED (d:Delta):List B:=[mO,ah d.region,ah d.point,ah d.x,ah d.y]
def hiL (h:List Ins):List B:=nO::h.map dC
def MZ (g:akN):List B:=dY::g.name::ah g.advance::if g.mark then [iM] else []
theorem iU {a:B}{l:List B}(ha:bV a=true)(hl:∀w∈l,bV w=true):a::l≠[]/\∀w∈a::l,bV w=true:=
 ⟨by simp,fun w hw=>by
  rw[anG] at hw;rcases hw with rfl|hw
  ·exact ha
  exact hl w hw⟩
theorem JD (l:List Int):∀w∈l.map ah,bV w=true:=fun w hw=>by
 rw[anZ] at hw;obtain⟨n,-,rfl⟩:=hw;exact rU n
section
variable {gl:Gl} {s:PS}
theorem acI {a:alG}(h:nameB a.name=true/\N9 a.min'/\N9 a.alI/\N9 a.max'):stmt gl s (AQ a)= .ok {s with f:= {s.f with akP:=s.f.akP++[a]}} :=by obtain⟨h1,h2,h3,h4⟩:=h;rw[AQ,RI,xx,Fb h1,gU _ h2,gU _ h3,gU _ h4,(eG _ h2).2,(eG _ h3).2,(eG _ h4).2];rfl
theorem adT {a:alG}(h:nameB a.name=true):AQ a≠[]/\∀w∈AQ a,bV w=true:=by
 refine⟨by simp[AQ],fun w hw=> ?_⟩;simp only[AQ,anG,an4,or_false] at hw;rcases hw with rfl|rfl|rfl|rfl|rfl
 ·decide
 ·exact qI h
 all_goals exact rU _
theorem KO (l:List alv):l.flatMap kz=(l.flatMap fun t=>[t.start,t.peak,t.stop]).map ah:=by
 induction l with
 |nil=>rfl
 |cons t r ih=>simp[kz,ih]
theorem Tj (l:List alv):dJ (l.flatMap fun t=>[t.start,t.peak,t.stop])=l:=by
 induction l with
 |nil=>rfl
 |cons t r ih=>simp[dJ,ih]
theorem PR (l:List alv):(l.flatMap fun t=>[t.start,t.peak,t.stop]).length=3*l.length:=by
 induction l with
 |nil=>rfl
 |cons t r ih=>simp only[anM,la,ih,aT,ln];omega
theorem aeo {r:Region}(h:∀t∈r.ak1,N9 t.start/\N9 t.peak/\N9 t.stop):stmt gl s (Bl r)= .ok {s with f:= {s.f with regions:=s.f.regions++[r]}} :=by
 have hn:∀n∈r.ak1.flatMap fun t=>[t.start,t.peak,t.stop],N9 n:=fun n hn=>by
  rw[an8] at hn;obtain⟨t,ht,hn⟩:=hn;obtain⟨h1,h2,h3⟩:=h t ht;simp only[anG,an4,or_false] at hn;rcases hn with rfl|rfl|rfl<;>assumption
 rw[Bl,JL,qW,KO,anB,PR,if_neg (by omega),wP _ hn,Fq _ hn,Tj];rfl
theorem acO (r:Region):Bl r≠[]/\∀w∈Bl r,bV w=true:=by rw[Bl,KO];exact iU (by decide) (JD _)
theorem adF {l:List Int}(h:∀n∈l,N9 n):stmt gl s (mr::l.map ah)= .ok {s with f:= {s.f with cvt:=s.f.cvt++l}} :=by rw[VJ,Oi,wP _ h,Fq _ h];rfl
theorem aeq {p:List Ins}(h:mG p):stmt gl s (Pj p)= .ok {s with f:= {s.f with funcs:=s.f.funcs++[p]}} :=by obtain⟨h1,h2,h3,-⟩:=BD p h 0;rw[Pj,Rn,xA,h3,h1,h2];rfl
theorem aeW {gs:List akN}(hg:alB gl gs){c:Chr}(h:N9 c.rune/\In gs.length c.akY):stmt gl s (AB gs c)= .ok {s with f:= {s.f with chars:=s.f.chars++[c]}} :=by obtain⟨h1,h2⟩:=h;rw[AB,Ru,xI,gU _ h1,(CG hg h2 0).1,(eG _ h1).2,(CG hg h2 0).2];rfl
theorem aeA {gs:List akN}(hg:alB gl gs){c:Chr}(h:In gs.length c.akY):AB gs c≠[]/\∀w∈AB gs c,bV w=true:=by
 refine⟨by simp[AB],fun w hw=> ?_⟩;simp only[AB,anG,an4,or_false] at hw;rcases hw with rfl|rfl|rfl
 ·decide
 ·exact rU _
 exact qI (zu hg h).2
theorem ae0 {x:alo}(h:nameB x.name=true/\∀n∈x.akK,N9 n):stmt gl s (EJ x)= .ok {s with f:= {s.f with features:=s.f.features++[x]}} :=by obtain⟨h1,h2⟩:=h;rw[EJ,G8,qF,Fb h1,wP _ h2,Fq _ h2];rfl
theorem aey {x:alo}(h:nameB x.name=true):EJ x≠[]/\∀w∈EJ x,bV w=true:=iU (by decide) (iU (qI h) (JD _)).2
theorem Ri {p:List Ins}(h:mG p){a:B}(ha:bV a=true):a::p.map dC≠[]/\∀w∈a::p.map dC,bV w=true:=iU ha (BD p h 0).2.2.2
theorem ac5 {l:Lookup}(h:1<=l.kind/\l.kind<=8):stmt gl s (Oh l)= .ok {s with f:= {s.f with akK:=s.f.akK++[⟨l.kind,l.alr,[]⟩]}} :=by obtain⟨h1,-⟩:=J6 l.kind h.1 h.2;rw[Oh,JU];cases hi:l.alr<;>simp only[iW,if_true,if_false,Bool.false_eq_true,true_or,or_true,h1,List.cons_ne_nil]<;>rw[if_neg (by omega)]<;>rfl
theorem adK {l:Lookup}(h:1<=l.kind/\l.kind<=8):Oh l≠[]/\∀w∈Oh l,bV w=true:=by
 refine iU (by decide) (iU (J6 l.kind h.1 h.2).2 fun w hw=> ?_).2;split at hw
 ·simp only[anu] at hw;subst hw;decide
 simp at hw
end
def lst (s:PS)(init:List Lookup)(l:Lookup):PS:= {s with f:= {s.f with akK:=init++[l]}}
theorem Uz (s:PS)(init:List Lookup)(l:Lookup)(h:Lookup->Lookup):lV (lst s init l) h=lst s init (h l):=by simp[lV,lst]
theorem Qd {gl:Gl}{gs:List akN}(hg:alB gl gs)(hn:gs.length<=1000)(s:PS)(l:Lookup)(hk:1<=l.kind/\l.kind<=8)(hr:∀r∈l.rules,OkR gs.length l.kind r)(ws:List (List Int)->List B)
  (hw:∀x:List (List Int),(∀y∈x,∀n∈y,In gs.length n)->Dv gs (ws x) x/\∀w∈ws x,bV w=true):
  ak5 gl s (Oh l::l.rules.map (fun r=>dL::(ws r.back++[47]::ws r.in'++[47]::ws r.ahead++[62]::outW gs l.kind r))) {s with f:= {s.f with akK:=s.f.akK++[l]}} :=by
 refine ak5.cons (adK hk) (ac5 hk) ?_;have key:=ak5.each (gl:=gl) l.rules (fun r=>dL::(ws r.back++[47]::ws r.in'++[47]::ws r.ahead++[62]::outW gs l.kind r)) (fun d=>lst s s.f.akK ⟨l.kind,l.alr,d⟩) (fun r hx=> ?_) (fun done r rest e=> ?_)
 ·have e:lst s s.f.akK ⟨l.kind,l.alr,l.rules⟩= {s with f:= {s.f with akK:=s.f.akK++[l]}} :=rfl;rw[<-e];exact key
 ·have ho:=hr r hx;obtain⟨a1,a2⟩:=hw r.back fun y hy=>(ho.back y hy).2
  obtain⟨b1,b2⟩:=hw r.in' fun y hy=>(ho.in' y hy).2
  obtain⟨c1,c2⟩:=hw r.ahead fun y hy=>(ho.ahead y hy).2
  refine iU (by decide) fun w hw=> ?_
  simp only[anL,anH,anz,anG] at hw;rcases hw with hw|rfl|hw|rfl|hw|rfl|hw
  ·exact a2 w hw
  ·decide
  ·exact b2 w hw
  ·decide
  ·exact c2 w hw
  ·decide
  exact(IY hg _ r ho w hw).2.2
 have ho:=hr r (by simp[e]);rw[Q8,XP hg hn _ ⟨l.kind,l.alr,done⟩ (by simp[lst]) hk r ho _ _ _ (hw r.back fun y hy=>(ho.back y hy).2).1 (hw r.in' fun y hy=>(ho.in' y hy).2).1 (hw r.ahead fun y hy=>(ho.ahead y hy).2).1,Uz]
def oC (s:PS)(init:List akN)(g:akN):PS:= {s with f:= {s.f with akJ:=init++[g]}}
theorem sN (s:PS)(init:List akN)(g:akN)(h:akN->akN):sV (oC s init g) h=oC s init (h g):=by simp[sV,oC]
theorem BK (s:PS)(init:List akN)(g:akN):(oC s init g).f.akJ≠[]:=by simp[oC]
section
variable {gl:Gl} {s:PS} {init:List akN} {g:akN}
theorem ada {gs:List akN}(hg:alB gl gs){p:Part}(h:In gs.length p.akY/\N9 p.x/\N9 p.y):stmt gl (oC s init g) (ES gs p)= .ok (oC s init {g with parts:=g.parts++[p]}):=by obtain⟨h1,h2,h3⟩:=h;rw[ES,RP,uH,if_neg (BK _ _ _)];simp only[(CG hg h1 0).1,(CG hg h1 0).2,gU _ h2,gU _ h3,(eG _ h2).2,(eG _ h3).2,sN];rfl
theorem adw {gs:List akN}(hg:alB gl gs){p:Part}(h:In gs.length p.akY):ES gs p≠[]/\∀w∈ES gs p,bV w=true:=by
 refine⟨by simp[ES],fun w hw=> ?_⟩;simp only[ES,anG,an4,or_false] at hw;rcases hw with rfl|rfl|rfl|rfl
 ·decide
 ·exact qI (zu hg h).2
 all_goals exact rU _
theorem aeb {a:ak7}(h:1<=a.kind/\a.kind<=4/\N9 a.cls/\N9 a.x/\N9 a.y):stmt gl (oC s init g) (EK a)= .ok (oC s init {g with anchors:=g.anchors++[a]}):=by
 obtain⟨h1,h2,h3,h4,h5⟩:=h;obtain⟨k1,-⟩:=Ko a.kind h1 h2;have hn:∀n∈[a.cls,a.x,a.y],N9 n:=by simp[h3,h4,h5]
 have he:=wP [a.cls,a.x,a.y] hn 0;rw[EK,KJ,kL,if_neg (BK _ _ _)];simp only[anE,aoi] at he;simp only[k1,he,(eG _ h3).2,(eG _ h4).2,(eG _ h5).2,sN];rw[if_neg (by omega)];rfl
theorem ad4 {a:ak7}(h:1<=a.kind/\a.kind<=4):EK a≠[]/\∀w∈EK a,bV w=true:=by
 refine⟨by simp[EK],fun w hw=> ?_⟩;simp only[EK,anG,an4,or_false] at hw;rcases hw with rfl|rfl|rfl|rfl|rfl
 ·decide
 ·exact(Ko a.kind h.1 h.2).2
 all_goals exact rU _
theorem acC {d:Delta}(h:N9 d.region/\N9 d.point/\N9 d.x/\N9 d.y):stmt gl (oC s init g) (ED d)= .ok (oC s init {g with deltas:=g.deltas++[d]}):=by
 obtain⟨h1,h2,h3,h4⟩:=h;have hn:∀n∈[d.region,d.point,d.x,d.y],N9 n:=by simp[h1,h2,h3,h4]
 have he:=wP [d.region,d.point,d.x,d.y] hn 0;rw[ED,Oy,pI,if_neg (BK _ _ _)];simp only[anE,aoi] at he;simp only[he,(eG _ h1).2,(eG _ h2).2,(eG _ h3).2,(eG _ h4).2,sN];rfl
theorem acW (d:Delta):ED d≠[]/\∀w∈ED d,bV w=true:=by
 refine⟨by simp[ED],fun w hw=> ?_⟩;simp only[ED,anG,an4,or_false] at hw;rcases hw with rfl|rfl|rfl|rfl|rfl
 ·decide
 all_goals exact rU _
theorem aeg {h:List Ins}(hk:mG h):stmt gl (oC s init g) (hiL h)= .ok (oC s init {g with hint:=g.hint++h}):=by obtain⟨h1,h2,h3,-⟩:=BD h hk 0;rw[hiL,RX,uG,if_neg (BK _ _ _),h3,h1,h2,sN];rfl
theorem adx {c:List Pt}(hc:∀p∈c,N9 p.x/\N9 p.y)(hne:c≠[]):stmt gl (oC s init g) (Q5 c)= .ok (oC s init {g with points:=g.points++c,ends:=g.ends++[((g.points.length+c.length:Nat):Int) - 1]}):=by
 obtain⟨h1,h2,h3,-⟩:=OM c hc 0;have hb:¬(c.map jq=[]\/(c.map jq).all lL=false):=by rw[h3];simp[hne]
 rw[Q5,GG,jG,if_neg (BK _ _ _),if_neg hb,h1,h2,sN,anB];rfl
theorem TQ (pts:List Pt)(hp:∀p∈pts,N9 p.x/\N9 p.y)(es:List Int)(fr:Nat)(done:List Int)(hfr:fr<=pts.length)(he:rH fr es pts.length)(n:B)(a:Int)(m:Bool):
  ak5 gl (oC s init ⟨n,a,m,pts.take fr,done,[],[],[],[]⟩) ((eX pts fr es).map Q5) (oC s init ⟨n,a,m,pts,done++es,[],[],[],[]⟩):=by
 induction es generalizing fr done with
 |nil=>simp only[rH] at he;subst he;rw[anA,an0];exact .nil _ _
 |cons e es ih=>
  obtain⟨h1,h2,h3⟩:=he;have hmem:∀p∈(pts.take (e.toNat+1)).drop fr,N9 p.x/\N9 p.y:=fun p hq=>hp p (List.mem_of_mem_take (List.mem_of_mem_drop hq))
  have hlen:((pts.take (e.toNat+1)).drop fr).length=e.toNat+1 - fr:=by rw[an9,anQ];omega
  have hne:(pts.take (e.toNat+1)).drop fr≠[]:=fun h0=>by
   rw[h0] at hlen;simp only[ln] at hlen;omega
  rw[eX,if_neg (by omega),anE];refine .cons (iU (by decide) (OM _ hmem 0).2.2.2) (adx hmem hne) ?_;have e1:pts.take fr++(pts.take (e.toNat+1)).drop fr=pts.take (e.toNat+1):=by have:=an1 fr (pts.take (e.toNat+1));rw[List.take_take,Nat.min_eq_left (by omega)] at this;exact this
  have e2:(((pts.take fr).length+((pts.take (e.toNat+1)).drop fr).length:Nat):Int) - 1=e:=by rw[hlen,anQ];omega
  have:=ih (e.toNat+1) (done++[e]) (by omega) h3;simp only[e1,e2];simpa using this
end
end
end Go.Proofs.YtkijckccfookeaaGreatDoor
