/- Lemmas. -/
import Derived.Test.YtkijckccfookeaaGreatDoorV09
import Derived.Test.YtkijckccfookeaaGreatDoorShelf
set_option linter.unusedVariables false
set_option linter.unusedSimpArgs false
set_option maxRecDepth 100000
set_option maxHeartbeats 32000000
namespace Go.Proofs.YtkijckccfookeaaGreatDoor
open Go.RowKit
section
def ai (n:Int):B:=aN n++[32]
def wO (b:Bool):B:=if b then [49,32] else [48,32]
def rowB (l:List Int):B:=ai l.length++l.flatMap ai
def jT (l:List (List Int)):B:=ai l.length++l.flatMap rowB
def mr (i:Ins):B:=ai i.op++ai i.a
def eU (l:List Ins):B:=ai l.length++l.flatMap mr
def oN (s:B):B:=ai s.length++(s++[32])
def oU (p:Pt):B:=ai p.x++(ai p.y++wO p.on)
def Vx (l:List Pt):B:=ai l.length++l.flatMap oU
def iP (p:Part):B:=ai p.anX++(ai p.x++ai p.y)
def Gg (l:List Part):B:=ai l.length++l.flatMap iP
def iJ (a:an8):B:=ai a.kind++(ai a.cls++(ai a.x++ai a.y))
def FK (l:List an8):B:=ai l.length++l.flatMap iJ
def kz (d:Delta):B:=ai d.region++(ai d.point++(ai d.x++ai d.y))
def Ou (l:List Delta):B:=ai l.length++l.flatMap kz
def dS (g:anP):B:=oN g.name++(ai g.advance++(wO g.mark++(Vx g.points++(rowB g.ends++(Gg g.parts++(FK g.anchors++(Ou g.deltas++eU g.hint)))))))
def Eb (l:List anP):B:=ai l.length++l.flatMap dS
def jZ (c:Chr):B:=ai c.rune++ai c.anX
def Oi (l:List Chr):B:=ai l.length++l.flatMap jZ
def iK (c:Call):B:=ai c.at'++ai c.lookup
def CW (l:List Call):B:=ai l.length++l.flatMap iK
def gX (r:aom):B:=jT r.back++(jT r.in'++(jT r.ahead++(rowB r.out++(CW r.calls++ai r.x))))
def Gm (l:List aom):B:=ai l.length++l.flatMap gX
def fP (l:Lookup):B:=ai l.kind++(wO l.aol++Gm l.rules)
def GR (l:List Lookup):B:=ai l.length++l.flatMap fP
def iL (x:aon):B:=oN x.name++rowB x.anM
def Ib (l:List aon):B:=ai l.length++l.flatMap iL
def iM (a:aoA):B:=oN a.name++(ai a.min'++(ai a.aou++ai a.max'))
def Ov (l:List aoA):B:=ai l.length++l.flatMap iM
def jl (t:aot):B:=ai t.start++(ai t.peak++ai t.stop)
def Dp (l:List aot):B:=ai l.length++l.flatMap jl
def lF (r:Region):B:=Dp r.anT
def Oq (l:List Region):B:=ai l.length++l.flatMap lF
def Hl (l:List (List Ins)):B:=ai l.length++l.flatMap eU
def jO (f:Fnt):B:=ai f.unit++(Eb f.anL++(Oi f.chars++(GR f.anM++(Ib f.features++(Ov f.anR++(Oq f.regions++(Hl f.funcs++rowB f.cvt)))))))
def PF {α:Type}(c:α->B):Prop:=∀x y r s,c x++r=c y++s->x=y/\r=s
theorem acR (s:B)(c:UInt8)(h:s.contains c=false):Lib.indexByte s c= -1:=by
 induction s with
 |nil=>rfl
 |cons d r ih=>
  rw[List.contains_cons,Bool.or_eq_false_iff] at h;have h1:(d==c)=false:=by have:=h.1;simp only[beq_eq_false_iff_ne,ne_eq] at this ⊢;exact fun e=>this e.symm
  rw[Lib.indexByte,h1,ih h.2];rfl
theorem Px (s:B)(c:UInt8)(h:s.contains c=true):Lib.indexByte s c=((df c s).length:Int)/\s=df c s++c::dM c s:=by
 induction s with
 |nil=>simp at h
 |cons d r ih=>
  by_cases hd:d=c
  ·subst hd;simp[Lib.indexByte,df,dM]
  have h1:(d==c)=false:=by simpa using hd
  have h2:r.contains c=true:=by
   rw[List.contains_cons,Bool.or_eq_true] at h;rcases h with h|h
   ·exact absurd (beq_iff_eq.1 h).symm hd
   exact h
  obtain⟨e1,e2⟩:=ih h2;have p1:df c (d::r)=d::df c r:=by show List.takeWhile (· !=c) (d::r)=_;rw[List.takeWhile_cons_of_pos (p:=fun x=>x !=c) (by simpa using hd)];rfl
  have p2:dM c (d::r)=dM c r:=by show(List.dropWhile (· !=c) (d::r)).drop 1=_;rw[List.dropWhile_cons_of_pos (p:=fun x=>x !=c) (by simpa using hd)];rfl
  have hne:(Lib.indexByte r c== -1)=false:=by rw[e1];simp
  rw[Lib.indexByte,h1,p1,p2,hne,e1];refine⟨by simp,?_⟩;rw[aqC,<-e2]
theorem ag9 (a b:B)(c:UInt8):(ByteArray.mk (a++c::b).toArray).extract 0 a.length=⟨a.toArray⟩:=by rw[fG];simp
theorem agY (a b:B)(c:UInt8):(ByteArray.mk (a++c::b).toArray).extract (a.length+1) (a++c::b).length=⟨b.toArray⟩:=by rw[fG,aqr,List.drop_append,aqU (by omega),show a.length+1 - a.length=1 by omega];rfl
def hasB (c:UInt8)(s:B):Bool:=s.contains c
theorem aar (w:World)(s:B)(c:UInt8)(hs:s.length<=100000000):Calls Tryz.prog 183 #[.string ⟨s.toArray⟩,.string ⟨#[c]⟩] w fun e w'=>e= .returned (.tuple #[.string ⟨(df c s).toArray⟩,.string ⟨(dM c s).toArray⟩,.bool (hasB c s)])/\∃n,w'=w.drewN n:=by
 cases hc:hasB c s with
 |false=>
  have hi:=hd0 (acR s c hc);have hn:Hid (df c s=s/\dM c s=[]):=by refine YZ (fun d hd e=> ?_);subst e;rw[<-Bool.not_eq_true,hasB] at hc;exact hc (List.contains_iff_mem.2 hd)
  clear hc;go_enter Tryz.func183,Tryz.ntmps183
  go_wp2_with (go_at_call 180;refine(Tryz.stringslite_Index_one ⟨s.toArray⟩ c _).mono ?_;rintro e w' ⟨rfl,rfl⟩;rw[show(Lib.indexByte (ByteArray.mk s.toArray).data.toList c)= -1 from hi.out])
  go_ret3
  rw[hn.out.1,hn.out.2];exact⟨rfl,0,rfl⟩
 |true=>
  obtain⟨h1,h2⟩:=Px s c hc;have hl:s.length=(df c s).length+(dM c s).length+1:=by
   conv=>lhs;rw[h2]
   simp;omega
  have hx1:=ag9 (df c s) (dM c s) c;have hx2:=agY (df c s) (dM c s) c;rw[<-h2] at hx1 hx2;have hi:=hd0 h1;clear h1 h2 hc;generalize df c s=a at*
  generalize dM c s=b at*
  have b0:(0:Int)<=(a.length:Int):=by omega
  have b1:(a.length:Int)<=(s.length:Int):=by omega
  have b2:(a.length:Int)+1<=(s.length:Int):=by omega
  have b3:(0:Int)<=(a.length:Int)+1:=by omega
  have b4:a.length+1<=s.length:=by omega
  clear hl;go_enter Tryz.func183,Tryz.ntmps183
  go_wp2_with (go_at_call 180;refine(Tryz.stringslite_Index_one ⟨s.toArray⟩ c _).mono ?_;rintro e w' ⟨rfl,rfl⟩;rw[show(Lib.indexByte (ByteArray.mk s.toArray).data.toList c)=(a.length:Int) from hi.out])
  go_quiet (fail)
  go_wp2
  go_ret3
  exact⟨rfl,_,rfl⟩
theorem PK (w:World)(s:B)(c:UInt8)(hs:s.length<=100000000):Calls Tryz.prog 168 #[.string ⟨s.toArray⟩,.string ⟨#[c]⟩] w fun e w'=>e= .returned (.tuple #[.string ⟨(df c s).toArray⟩,.string ⟨(dM c s).toArray⟩,.bool (hasB c s)])/\∃n,w'=w.drewN n:=by
 have hc:=hd0 (aar w s c hs);clear hs;go_enter Tryz.func168,Tryz.ntmps168
 go_wp2_with (go_at_call 183;refine hc.out.mono ?_;rintro e w' ⟨rfl,n,rfl⟩)
 go_ret3
 exact⟨rfl,n,rfl⟩
def TS (ts:List TypeId)(base:Nat)(w:World):Bs:=fun b=>base<=b/\∃cs t,Bk w b t cs/\t∈ts
theorem TS.lt {ts:List TypeId}{base:Nat}{w:World}:∀b,TS ts base w b->b<w.heap.size:=fun b ⟨_,_,_,h,_⟩=>h.lt
theorem TS.mono {ts ts':List TypeId}{base base':Nat}{w:World}(h:∀t∈ts,t∈ts')(hb:base'<=base):∀b,TS ts base w b->TS ts' base' w b:=fun b ⟨h1,cs,t,h2,h3⟩=>⟨by omega,cs,t,h2,h t h3⟩
def Sp (m:Nat)(e:TypeId)(w w':World):Prop:=∃row,w.grownBy w' row/\∀x,row=some x->m<=x/\∃cs,Bk w x e cs
section
variable {m:Nat} {e t:TypeId} {w w':World}
theorem Sp.size (h:Sp m e w w'):w.heap.size<=w'.heap.size:=by obtain⟨row,hg,_⟩:=h;exact hg.size
theorem Sp.bk {g:Nat}{cs:Array Value}(h:Sp m e w w')(hb:Bk w g t cs)(hne:t≠e):Bk w' g t cs:=by
 obtain⟨row,hg,hr⟩:=h;exact(hg.block g hb.lt (fun e'=>by
  obtain⟨-,cs',hk⟩:=hr g e'.symm;exact hne (bY hb hk).1)).trans hb
theorem Sp.own {base size n:Nat}{v:Value}{xs:List Value}(h:Sp m e w w')(ho:w.ownsRow base t size v n xs)(hne:t≠e):w'.ownsRow base t size v n xs:=by
 obtain⟨row,hg,hr⟩:=h;refine ho.kept hg ?_;cases hb:v.ownBlock with
 |none=>exact .inl rfl
 |some g=>exact .inr (fun e'=>by
   obtain⟨-,cs',hk⟩:=hr g e'.symm;obtain⟨cur,hk2⟩:=jK ho g hb;exact hne (bY hk2 hk).1)
theorem Sp.ts {ts:List TypeId}{base:Nat}(h:Sp m e w w')(hts:e ∉ ts):Same (TS ts base w) w w'/\∀b,TS ts base w b->TS ts base w' b:=by
 have key:∀b,TS ts base w b->w'.heap[b]? =w.heap[b]? :=fun b ⟨_,cs,t',hk,ht⟩=>by
  obtain⟨row,hg,hr⟩:=h;exact hg.block b hk.lt (fun e'=>by
   obtain⟨-,cs',hk'⟩:=hr b e'.symm;exact hts ((bY hk hk').1 ▸ ht))
 exact⟨key,fun b hb=>by
  obtain⟨h1,cs,t',hk,ht⟩:=hb;exact⟨h1,cs,t',(key b ⟨h1,cs,t',hk,ht⟩).trans hk,ht⟩⟩
theorem Sp.sl {α:Type}{R:Rel α}(ok:R.Ok){size:Nat}{A:Option Addr}{xs:List α}{ts:List TypeId}{base:Nat}(h:Sp m e w w')(hts:e ∉ ts)(hs:Sl R size w (TS ts base w) A xs):Sl R size w' (TS ts base w') A xs:=hs.moved ok (h.ts hts)
theorem Sp.fl {α:Type}{R:Rel α}(ok:R.Ok){size:Nat}{cells:List Value}{xs:List α}{ts:List TypeId}{base:Nat}(h:Sp m e w w')(hts:e ∉ ts)(hs:Fl R size w (TS ts base w) cells xs):Fl R size w' (TS ts base w') cells xs:=hs.moved ok (h.ts hts)
theorem Sp.rd {A:Option Addr}{n size:Nat}{cs:List Value}(h:Sp m e w w')(hm:m<=w.heap.size)(hr:Rd w m A n size cs):Rd w' m A n size cs:=by obtain⟨row,hg,hx⟩:=h;exact hr.grown hg hm (fun g eg=>(hx g eg).1)
theorem Sp.mk {fs:Nat->Value}{lp:Int}(h:Sp m e w w')(hk:Mk w m fs lp)(hne:mY≠e):Mk w' m fs lp:=by have hm:=hk.lt;obtain⟨A,n,c,a,zs,h1,h2,h3,h4,h5⟩:=hk;exact⟨A,n,c,a,zs,h.bk h1 hne,h2,h3,h.rd (by omega) h4,h5⟩
theorem Sp.below (hb:Below w.heap.size w w'):Sp m e w w':=⟨none,aH hb none,fun x hx=>by cases hx⟩
theorem Sp.next {fs:Nat->Value}{lp:Int}(hk:Mk w m fs lp)(hv:Mv m w w'):Sp m mY w w':=⟨some m,hv,fun x hx=>by
 injection hx with hx
 subst hx;obtain⟨A,n,c,a,zs,h1,-⟩:=hk;exact⟨ag _,_,h1⟩⟩
theorem Sp.push {base size n:Nat}{v:Value}{xs:List Value}(ho:w.ownsRow base e size v n xs)(hm:m<=base)(hg:w.grownBy w' v.ownBlock):Sp m e w w':=⟨_,hg,fun x hx=>⟨nt hm (ho.lt x hx).1,jK ho x hx⟩⟩
theorem Sp.set {g:Nat}{cs:Array Value}(hb:Bk w g e cs)(hm:m<=g)(j:Nat)(u:Value):Sp m e w (w.setCell ⟨g,j,none⟩ u):=⟨some g,bn (World.grownBy.refl _ _) (.inl rfl) u,fun x hx=>by
 injection hx with hx
 subst hx;exact⟨hm,cs,hb⟩⟩
theorem DC (m:Nat)(w:World):Mv m w w:=World.grownBy.refl _ _
theorem uJ {w0:World}{row:Option Nat}(h:Mv m w0 w)(hg:w.grownBy w' row)(hr:∀x,row=some x->w0.heap.size<=x\/x=m):Mv m w0 w':=
 ⟨hg.os.trans h.os,hg.tape.trans h.tape,hg.output.trans h.output,nt h.size hg.size,fun i hi hne=>(hg.block i (aqu hi h.size) (fun e'=>by
  rcases hr i e'.symm with h1|h1
  ·omega
  exact hne (by rw[h1]))).trans (h.block i hi hne)⟩
theorem jM {w0:World}(h:Mv m w0 w)(hb:Below w.heap.size w w'):Mv m w0 w':=uJ h (aH hb none) (fun x hx=>by cases hx)
theorem gy {w0:World}(h:Mv m w0 w)(hv:Mv m w w'):Mv m w0 w':=uJ h hv (fun x hx=>by injection hx with hx;exact .inr hx.symm)
theorem kE {w0:World}{base size n:Nat}{v:Value}{xs:List Value}(h:Mv m w0 w)(ho:w.ownsRow base e size v n xs)(hb:w0.heap.size<=base)(hg:w.grownBy w' v.ownBlock):Mv m w0 w':=uJ h hg (fun x hx=> .inl (nt hb (ho.lt x hx).1))
theorem uB {w0:World}{g:Nat}(h:Mv m w0 w)(hg:w0.heap.size<=g)(j:Nat)(u:Value):Mv m w0 (w.setCell ⟨g,j,none⟩ u):=uJ h (bn (World.grownBy.refl _ _) (.inl rfl) u) (fun x hx=>by injection hx with hx;exact .inl (by rw[<-hx];exact hg))
theorem dK {b o:Nat}{u:Value}(hv:Mv m w w')(hne:b≠m)(h:w.cell? ⟨b,o,none⟩=some u):w'.cell? ⟨b,o,none⟩=some u:=by have hb:=World.block_lt_of_cell? w _ h;exact Same.cell (S:=fun x=>x=b) (fun x hx=>by subst hx;exact hv.block x hb (fun e'=>hne (by injection e'))) rfl h
theorem dJ {α:Type}{R:Rel α}{size:Nat}{cells:List Value}{xs:List α}{A:Option Addr}{base b0 n c:Nat}{ts:List TypeId}(h:w.ownsRow base e size (.slice A n c) n cells)(hf:Fl R size w (TS ts b0 w) cells xs)(he:e∈ts)(hb:b0<=base)(hsz:0<size):Sl R size w (TS ts b0 w) A xs:=
 Sl.aow h hf (fun g hg=>by
  obtain⟨cur,hk⟩:=jK h g hg;exact⟨by have:=(h.lt g hg).1;omega,cur,e,hk,he⟩) hsz
theorem Sl.ts {α:Type}{R:Rel α}(ok:R.Ok){size:Nat}{A:Option Addr}{xs:List α}{ts ts':List TypeId}{base base':Nat}(h:Sl R size w (TS ts base w) A xs)(hs:∀t∈ts,t∈ts')(hb:base'<=base):Sl R size w (TS ts' base' w) A xs:=h.mono ok (TS.mono hs hb)
end
theorem iG {e t size:Nat}(E:ElT e t size)(ty:TypeId)(w1:World)(base n c:Nat)(A:Option Addr)(xs:List Value)(news:Array Value)(hnl:news.size=size)(hown:w1.ownsRow base e size (.slice A n c) n xs)(h1:∀u∈news.toList,u.oneCell'=true)(hn:n<=10000000000)(hb:base<=w1.heap.size):
  ∃A' c' w',(Builtin.append_ #[t,t] ty #[.slice A n c,.slice (some ⟨w1.heap.size,0,none⟩) 1 1]).run Tryz.prog (w1.alloc (.cells news e))= .ok (.slice A' (n+1) c') w'/\w'.ownsRow base e size (.slice A' (n+1) c') (n+1) (xs++news.toList)/\w1.grownBy w' (Value.slice A n c).ownBlock/\Loc w1 (.slice A n c) (.slice A' (n+1) c'):=by
 obtain⟨A',c',w',hrun,h2,h3,h4⟩:=wH E ty (w1.alloc (.cells news e)) base n c A xs (hown.alloc _) (w1.heap.size+1) (some ⟨w1.heap.size,0,none⟩) 1 1 news.toList (Rd.newAt _ _ rfl news e 1 size (by omega)) h1 (by omega) (by simp;omega);refine⟨A',c',w',hrun,h2,⟨h3.os,h3.tape,h3.output,nt (by simp) h3.size,fun i hi hne=> ?_⟩,h4.imp id fun h5 g hg=>by have:=h5 g hg;simp at this;omega⟩;exact(h3.block i (by simp;omega) hne).trans (Below.heap_alloc _ _ _ hi)
end
section
theorem aa6 (z:Int)(k:Nat)(h:1<=k):∃r:Int,z.tmod (k:Int)=r/\ -(k:Int)<r/\r<k:=by
 refine⟨_,rfl,?_,?_⟩
 ·rw[Int.tmod_eq_emod];have h1:=Int.emod_nonneg z (show(k:Int)≠0 by omega);split
  ·omega
  rename_i hn;have h2:z % (k:Int)≠0:=fun e=>hn (.inr (Int.dvd_of_emod_eq_zero e))
  omega
 exact Int.tmod_lt_of_pos z (by omega)
theorem aeB (r:Int)(k:Nat)(h:1<=k)(h0:0<=r):∃x:Nat,r.tmod (k:Int)=x/\x<k:=by
 refine⟨(r % (k:Int)).toNat,?_,?_⟩
 ·rw[Int.tmod_eq_emod_of_nonneg h0,Int.toNat_of_nonneg (Int.emod_nonneg _ (by omega))]
 have:=Int.emod_lt_of_pos r (show(0:Int)<k by omega);have:=Int.emod_nonneg r (show(k:Int)≠0 by omega);omega
def Rw (w:World)(m:Nat)(fs:Nat->Value)(lp:Int)(k:Nat)(e:Ending)(w':World):Prop:=∃x:Nat,x<k/\e= .returned (.int .i64 x)/\Mk w' m fs lp/\Mv m w w'
theorem aC (w:World)(m:Nat)(fs:Nat->Value)(lp:Int)(k:Nat)(h:Mk w m fs lp)(h1:1<=k)(hk:k<=1000000):
  Calls Tryz.prog 59 #[.pointer (some ⟨m,0,none⟩),.int .i64 k] w (Rw w m fs lp k):=by
 obtain⟨A,n,c,a,zs,hb,ha,hn,hr,hz⟩:=h;have HB:=hd0 hb;have HR:=hd0 hr;have HZ:=hd0 hz;have q0:w.cell? ⟨m,0,none⟩=some (.slice A n c):=hb.cell 0;have q1:w.cell? ⟨m,1,none⟩=some (.int .i64 a):=hb.cell 1;have y1:=hb.frozen 1;have zm:=hb.lt;by_cases hlt:a<n
 ·obtain⟨b,o,z,rfl,hbm,hx,q2⟩:=hr.atI hlt;have hzi:=hz z (aqt hx.out);obtain⟨r,hr1,hr2,hr3⟩:=aa6 z k h1;obtain⟨x,hx1,hx2⟩:=aeB (r+k) k h1 (by omega);unfold I64 at hzi;clear hb hr hz hx;go_enter Tryz.func59,Tryz.ntmps59
  go_wp2_with fail
  go_quiet (fail)
  go_wp2_with fail
  go_quiet (fail)
  go_wp2_with fail
  go_ret
  refine⟨x,hx2,rfl,?_,bn (jD (World.grownBy.refl _ _) _) (.inl rfl) _⟩;refine⟨some ⟨b,o,none⟩,n,c,a+1,zs,?_,hlt,hn,(HR.out.drewN _).setCell (p:=⟨m,1,none⟩) (ag _) _,HZ.out⟩;exact Bk.set (w:=w.drewN _) HB.out 1 (.int .i64 (a+1))
 have e1:decide ((n:Int)<=a)=true:=by simp;omega
 clear hb hr hz;go_enter Tryz.func59,Tryz.ntmps59
 go_wp2_with fail
 go_quiet (fail)
 go_wp2_with fail
 go_ret
 exact⟨0,h1,rfl,⟨A,n,c,a,zs,HB.out,ha,hn,HR.out.drewN _,HZ.out⟩,jD (World.grownBy.refl _ _) _⟩
theorem Hw:∀k:Fin 8,∃s,aS[k.val]? =some s/\ja aS s=(k.val:Int)+1/\cO s=true:=by decide+kernel
theorem GL:∀k:Fin 4,∃s,anchorNames[k.val]? =some s/\ja anchorNames s=(k.val:Int)+1/\cO s=true:=by decide+kernel
theorem KF (n:Int)(h1:1<=n)(h2:n<=8):ja aS (pick aS n)=n/\cO (pick aS n)=true:=by
 obtain⟨s,e1,e2,e3⟩:=Hw ⟨(n - 1).toNat,by omega⟩;have:pick aS n=s:=by unfold pick;rw[if_neg (by omega)];simp only at e1;rw[e1];rfl
 rw[this];simp only at e2;exact⟨by omega,e3⟩
theorem LU (n:Int)(h1:1<=n)(h2:n<=4):ja anchorNames (pick anchorNames n)=n/\cO (pick anchorNames n)=true:=by
 obtain⟨s,e1,e2,e3⟩:=GL ⟨(n - 1).toNat,by omega⟩;have:pick anchorNames n=s:=by unfold pick;rw[if_neg (by omega)];simp only at e1;rw[e1];rfl
 rw[this];simp only at e2;exact⟨by omega,e3⟩
section
variable (gl:Gl) (s:PS) (r:List B)
theorem Uf:stmt gl s (oH::r)=mi s r:=by simp[stmt]
theorem TY:stmt gl s (sO::r)=sQ s r:=by simp[stmt]
theorem Ky:stmt gl s (kG::r)=lX s r:=by simp[stmt]
theorem YC:stmt gl s (pz::r)=Cc s r:=by simp[stmt]
theorem UK:stmt gl s (rY::r)=rD s r:=by simp[stmt]
theorem Z4:stmt gl s (uN::r)=je gl s r:=by simp[stmt]
theorem Rf:stmt gl s (eQ::r)=gI gl s r:=by simp[stmt]
theorem FV:stmt gl s (iW::r)=gK s r:=by simp[stmt]
theorem UG:stmt gl s (pX::r)=oL gl s r:=by simp[stmt]
theorem KH:stmt gl s (kC::r)=iT s r:=by simp[stmt]
theorem Qi:stmt gl s (nC::r)=lL s r:=by simp[stmt]
theorem TM:stmt gl s (sS::r)=oI s r:=by simp[stmt]
theorem UB:stmt gl s (rF::r)=rq gl s r:=by simp[stmt]
theorem MG:stmt gl s (lU::r)=gB s r:=by simp[stmt]
theorem Uw:stmt gl s (mF::r)=eF gl s r:=by simp[stmt]
theorem Gx:stmt gl s (jo::r)=lG s r:=by simp[stmt]
end
theorem J9 {gl:Gl}{gs:List anP}(h:aoD gl gs)(kind:Int)(r:aom)(hr:OkR gs.length kind r):∀w∈outW gs kind r,w≠[47]/\w≠[62]/\cO w=true:=by
 have num:∀(n:Int),aN n≠[47]/\aN n≠[62]/\cO (aN n)=true:=fun n=>⟨fun e=>by
  have:=qF n 47 (by rw[e];simp)
  revert this
  decide,fun e=>by
  have:=qF n 62 (by rw[e];simp)
  revert this
  decide,pJ n⟩
 intro w hw;unfold outW at hw;split at hw
 ·rw[aqQ] at hw;obtain⟨n,hn,rfl⟩:=hw;have h1:=(Az h (hr.out n hn)).2;have:=Jb h1;exact⟨this.2.2.1,this.2.2.2,qB h1⟩
 split at hw
 ·rw[aqQ] at hw;obtain⟨c,hc,rfl⟩:=hw;have VE:(58:UInt8)∈aN c.at'++58::aN c.lookup:=by simp
  refine⟨fun e=> ?_,fun e=> ?_,(KX c (hr.calls c hc) 0).2.2.2⟩
  ·rw[e] at VE;revert VE;decide
  rw[e] at VE;revert VE;decide
 split at hw
 ·simp only[aql] at hw;subst hw;exact num r.x
 simp at hw
def DU (gs:List anP)(ws:List B)(l:List (List Int)):Prop:=(∀w∈ws,w≠[47]/\w≠[62])/\fD ws=some (l.map (fun s=>s.map (iI gs)))
theorem Zk {gl:Gl}{gs:List anP}(h:aoD gl gs)(hn:gs.length<=1000)(s:PS)(lk:Lookup)(hl:s.f.anM.getLast? =some lk)(hk:1<=lk.kind/\lk.kind<=8)(r:aom)(hr:OkR gs.length lk.kind r)
  (u0 u1 u2:List B) (h0:DU gs u0 r.back) (h1:DU gs u1 r.in') (h2:DU gs u2 r.ahead):
  eF gl s (u0++[47]::u1++[47]::u2++[62]::outW gs lk.kind r)= .ok (jG s fun lk=> {lk with rules:=lk.rules++[r]}):=by
 have hi:∀l:List (List Int),(∀x∈l,Pq gs.length x)->(∀x∈l,∀n∈x,In gs.length n)/\(∀x∈l,(∀n∈x,In gs.length n)/\x.length<=1000)/\l.map setOf=l:=fun l hl=>by
  refine⟨fun x hx=>(hl x hx).2,fun x hx=>⟨(hl x hx).2,nt (Ub (hl x hx)) hn⟩,?_⟩
  conv=>rhs;rw[<-List.map_id l]
  exact List.map_congr_left (fun x hx=>Qe x (hl x hx).1)
 obtain⟨a1,a2,a3⟩:=hi _ hr.back;obtain⟨b1,b2,b3⟩:=hi _ hr.in';obtain⟨c1,c2,c3⟩:=hi _ hr.ahead;have hp:pR (u0++[47]::u1++[47]::u2++[62]::outW gs lk.kind r)=some [u0,u1,u2,outW gs lk.kind r]:=abr _ _ _ _ h0.1 h1.1 h2.1 (fun w hw=>⟨(J9 h _ r hr w hw).1,(J9 h _ r hr w hw).2.1⟩);unfold eF;simp only[hl,hp,h0.2,h1.2,h2.2,wZ h s.cls _ a2,wZ h s.cls _ b2,wZ h s.cls _ c2,aqs,a3,b3,c3];clear h0 h1 h2 hp;obtain⟨q1,q2⟩:=adC h r.out hr.out 0;obtain⟨d1,d2,d3,-⟩:=Xn r.calls hr.calls 0;have x1:=gU r.x hr.x 0;have x2:=(eP r.x hr.x).2;have hcases:lk.kind=1\/lk.kind=2\/lk.kind=3\/lk.kind=4\/lk.kind=5\/lk.kind=6\/lk.kind=7\/lk.kind=8:=by omega
 have hone:=hr.one;have Gv:=hr.outs;have BO:=hr.noC;have Bv:=hr.noX;have hin:=hr.in';cases r with
 |mk rb ri ra ro rc rx=>
 simp only at*
 rcases hcases with e|e|e|e|e|e|e|e<;>rw[e] at hone Gv BO Bv ⊢
 case inl=>obtain⟨t,rfl,ht⟩:=hone (by simp);have hs:=(hin t (by simp)).1;simp[dZ,outW,q1,q2,CP t ro hs ht,BO,Bv]
 case inr.inl=>simp[dZ,outW,q1,q2,BO,Bv]
 case inr.inr.inl=>simp[dZ,outW,q1,q2,BO,Bv]
 case inr.inr.inr.inl=>have:=Gv (by simp);subst this;simp[dZ,outW,d1,d2,d3,Bv]
 case inr.inr.inr.inr.inl=>obtain⟨t,rfl,ht⟩:=hone (by simp);have hs:=(hin t (by simp)).1;simp[dZ,outW,q1,q2,CP t ro hs ht,BO,Bv]
 case inr.inr.inr.inr.inr.inl=>have:=Gv (by simp);subst this;simp[dZ,outW,fB,x1,x2,BO]
 case inr.inr.inr.inr.inr.inr.inl=>have:=Gv (by simp);subst this;simp[dZ,outW,BO,Bv]
 case inr.inr.inr.inr.inr.inr.inr=>have:=Gv (by simp);subst this;simp[dZ,outW,BO,Bv]
def gZ (gs:List anP)(l:List (List Int)):List B:=l.flatMap (fun s=>[91]::s.map (iI gs)++[[93]])
theorem yD {gl:Gl}{gs:List anP}(h:aoD gl gs)(l:List (List Int))(hl:∀s∈l,∀n∈s,In gs.length n):∀w∈gZ gs l,w≠[47]/\w≠[62]/\cO w=true:=by
 intro w hw;simp only[gZ,aqZ,aqC,aqx,aqp,aqQ,aqV,or_false] at hw;obtain⟨s,hs,hw⟩:=hw;rcases hw with rfl|⟨n,hn,rfl⟩|rfl
 ·decide
 ·have h1:=(Az h (hl s hs n hn)).2;have:=Jb h1;exact⟨this.2.2.1,this.2.2.2,qB h1⟩
 decide
theorem acl {gl:Gl}{gs:List anP}(h:aoD gl gs)(l:List (List Int))(hl:∀s∈l,∀n∈s,In gs.length n):DU gs (gZ gs l) l:=by
 refine⟨fun w hw=>⟨(yD h _ hl w hw).1,(yD h _ hl w hw).2.1⟩,?_⟩
 suffices key:∀told,fE false [] told (gZ gs l)=some (told++l.map (fun s=>s.map (iI gs))) by simpa [fD] using key []
 induction l with
 |nil=>intro told;simp[gZ,fE]
 |cons s r ih=>
  intro told;have e:gZ gs (s::r)=[91]::(s.map (iI gs)++[93]::gZ gs r):=by simp[gZ]
  have hb:∀w∈s.map (iI gs),w≠[91]/\w≠[93]:=fun w hw=>by
   rw[aqQ] at hw;obtain⟨n,hn,rfl⟩:=hw;have:=Jb (Az h (hl s (by simp) n hn)).2;exact⟨this.1,this.2.1⟩
  rw[e,fE,if_pos rfl];simp only[Bool.false_eq_true,if_false];rw[ack _ hb,ih (fun x hx=>hl x (by simp[hx]))];simp
end
section
theorem Kz (u:Nat)(h:u<=999999999):(fZ u).length<=9:=Qu 8 u (by show u<1000000000;omega)
theorem ahb (U:Nat)(h0:1<=U)(hU:U<=999999999):IntKind.u64.wrap (-IntKind.u64.wrap (-(U:Int)))=U:=by simp[IntKind.wrap,IntKind.signed,IntKind.bits];omega
theorem Su (w:World)(U:Nat)(hU:U<=999999999):Calls Tryz.prog 28 #[.int .i64 U] w fun e w'=>e= .returned (.string ⟨(fZ U).toArray⟩)/\Below w.heap.size w w':=by
 have cv:=fun w=>xY w (48+(U:Int) % 10) U rfl
 have hn0:decide ((U:Int)<0)=false:=by simp
 go_enter Tryz.func28,Tryz.ntmps28
 go_wp2;go_loopw [4,5] (fun u o wr=>∃(q:Nat) (out:B),u= .int .u64 q/\o= .string ⟨out.toArray⟩/\Hid (fZ U=lq q++out)/\q<=999999999/\Below w.heap.size w wr) (fun u _ _=>(intOf u).toNat)
 case atStart=>exact⟨U / 10,[iY U],by simp,rfl,zX U,by omega,(aqk _ _).alloc (ag _) _⟩
 case round=>
  obtain⟨q,out,rfl,rfl,hdec,hq,hbl⟩:=hrel;have hol:out.length<=9:=by have h1:=congrArg List.length hdec.out;have h2:=Kz U hU;rw[az] at h1;omega
  clear cv;by_cases h0:0<q
  ·have cv:=fun w=>xY w (48+(q:Int) % 10) q rfl
   have hap:(ByteArray.mk #[iY q])++⟨out.toArray⟩=⟨(iY q::out).toArray⟩:=dN [iY q] out;have Xb:Hid (fZ U=lq (q / 10)++(iY q::out)):=by show _=_;rw[hdec.out,EQ q h0];simp
   go_wp2;go_roundw
   case rel=>exact⟨q / 10,iY q::out,by simp,rfl,Xb,by omega,hbl.alloc hbl.size _⟩
   case measure=>simp[intOf];omega
  obtain rfl:q=0:=by omega
  have hz:Hid (fZ U=out):=by show _=_;rw[hdec.out,lq,if_pos rfl,aqX]
  have hap:(ByteArray.mk #[])++⟨out.toArray⟩=⟨out.toArray⟩:=dN [] out;go_wp2;go_ret
  exact⟨by rw[hz.out];rfl,hbl⟩
theorem RP (w:World)(U:Nat)(h0:1<=U)(hU:U<=999999999):Calls Tryz.prog 28 #[.int .i64 (-(U:Int))] w fun e w'=>e= .returned (.string ⟨(45::fZ U).toArray⟩)/\Below w.heap.size w w':=by
 have cv:=fun w=>xY w (48+(U:Int) % 10) U rfl
 have hwr:=ahb U h0 hU;have hn0:decide (0<U)=true:=by simp;omega
 go_enter Tryz.func28,Tryz.ntmps28
 go_wp2;clear hwr;go_loopw [4,5] (fun u o wr=>∃(q:Nat) (out:B),u= .int .u64 q/\o= .string ⟨out.toArray⟩/\Hid (fZ U=lq q++out)/\q<=999999999/\Below w.heap.size w wr) (fun u _ _=>(intOf u).toNat)
 case atStart=>exact⟨U / 10,[iY U],by simp,rfl,zX U,by omega,(aqk _ _).alloc (ag _) _⟩
 case round=>
  obtain⟨q,out,rfl,rfl,hdec,hq,hbl⟩:=hrel;have hol:out.length<=9:=by have h1:=congrArg List.length hdec.out;have h2:=Kz U hU;rw[az] at h1;omega
  clear cv;by_cases h0:0<q
  ·have cv:=fun w=>xY w (48+(q:Int) % 10) q rfl
   have hap:(ByteArray.mk #[iY q])++⟨out.toArray⟩=⟨(iY q::out).toArray⟩:=dN [iY q] out;have Xb:Hid (fZ U=lq (q / 10)++(iY q::out)):=by show _=_;rw[hdec.out,EQ q h0];simp
   go_wp2;go_roundw
   case rel=>exact⟨q / 10,iY q::out,by simp,rfl,Xb,by omega,hbl.alloc hbl.size _⟩
   case measure=>simp[intOf];omega
  obtain rfl:q=0:=by omega
  have hz:Hid (fZ U=out):=by show _=_;rw[hdec.out,lq,if_pos rfl,aqX]
  have hap:(ByteArray.mk #[45])++⟨out.toArray⟩=⟨(45::out).toArray⟩:=dN [45] out;go_wp2;go_ret
  exact⟨by rw[hz.out];rfl,hbl⟩
theorem vK (w:World)(n:Int)(h:N9 n):Calls Tryz.prog 28 #[.int .i64 n] w fun e w'=>e= .returned (.string ⟨(aN n).toArray⟩)/\Below w.heap.size w w':=by
 unfold N9 at h;by_cases h0:n<0
 ·have e1:n= -((n.natAbs:Nat):Int):=by omega
  have e2:aN n=45::fZ n.natAbs:=by rw[aN,Lib.itoa,if_pos h0,zK]
  rw[e2]
  conv=>arg 3;rw[e1]
  exact RP w n.natAbs (by omega) (by omega)
 have e1:n=((n.toNat:Nat):Int):=by omega
 have e2:aN n=fZ n.toNat:=by rw[aN,Lib.itoa,if_neg h0,zK]
 rw[e2]
 conv=>arg 3;rw[e1]
 exact Su w n.toNat (by omega)
end
end Go.Proofs.YtkijckccfookeaaGreatDoor
