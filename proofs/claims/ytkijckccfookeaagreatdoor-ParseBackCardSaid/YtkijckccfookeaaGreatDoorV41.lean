/- Lemmas. -/
import Derived.Test.YtkijckccfookeaaGreatDoorPbF
import Derived.Test.YtkijckccfookeaaGreatDoorPaP
import Derived.Test.YtkijckccfookeaaGreatDoorMkRc
import Derived.Laws.CopyOwn
set_option linter.unusedVariables false
set_option linter.unusedSimpArgs false
set_option maxRecDepth 100000
set_option maxHeartbeats 32000000
namespace Go.Proofs.YtkijckccfookeaaGreatDoor
open Go.RowKit
section
theorem aok.drew {w:World}{A:Option Addr}{n:Nat}{ws:List P3}(h:aok w A n ws):aok w.drew A n ws:=⟨h.rd.below (aqk _ w).drew,h.len,h.few⟩
theorem aoi.drew {w:World}(h:aoi w):aoi w.drew:=h.below (aqk _ w).drew
def acC (f:B->Option Value)(w:World)(Bd p gm cm:Nat)(gl:Gl)(s:PS)(K:Nat)(A:Option Addr)(n c:Nat)(t:B)(l:List B):Prop:=
 (f t=none/\stmt gl s (t::l)= .error 22)\/
 (∃F,f t=some (pV p F)/\(∀(args:Array Value) (w:World),(callFunc F args).run Tryz.prog w= .ok (.enter F args) w)/\Calls Tryz.prog F #[.pointer (some ⟨p,0,none⟩),.slice A n c] w (anQ w Bd p gm cm gl (K+n) (stmt gl s (t::l))))\/
 (∃F a b,f t=some (cV F a b)/\(∀(args:Array Value) (w:World),(callFunc F args).run Tryz.prog w= .ok (.enter F args) w)/\Calls Tryz.prog F #[.slice A n c,.pointer (some ⟨a,0,none⟩),.pointer (some ⟨b,0,none⟩)] w (anQ w Bd p gm cm gl (K+n) (stmt gl s (t::l))))
theorem XV {f:B->Option Value}{M:Nat}{jy jv ql qh kF kD nD mV qj qp pY qf:Nat}(w:World)(Bd p gm cm:Nat)(gl:Gl)(s:PS)(rv:Rows)(K:Nat)(A:Option Addr)(n c:Nat)(ws:List P3)(t:B)(l:List B)(hM:ao8 w p M f jy jv ql qh kF kD nD mV qj qp pY qf)(hP:PSt w Bd p gm cm gl s rv K)(hL:aok w A n ws)(hT:ah ws=t::l)(hK9:K<=1000000000)(hc:n<=c)(fF:aoi w)(ng:nT<=Bd):
  acC f w Bd p gm cm gl s K A n c t l:=by
 have hK:K<=10000000000:=by omega
 by_cases hUnit:t=oH
 ·subst hUnit;refine .inr (.inl ⟨73,hM.aqe,fun _ _=>enters_of Tryz.func73 (by kernel_rfl) rfl _ _,?_⟩);rw[Uf];exact Tt w Bd p gm cm gl s rv K A n c ws _ l hP hL hT
 by_cases hAxis:t=sO
 ·subst hAxis;refine .inr (.inl ⟨74,hM.aqd,fun _ _=>enters_of Tryz.func74 (by kernel_rfl) rfl _ _,?_⟩);rw[TY];exact RY w Bd p gm cm gl s rv K A n c ws _ l hP hL hT hK
 by_cases hRegion:t=kG
 ·subst hRegion;refine .inr (.inl ⟨75,hM.apL,fun _ _=>enters_of Tryz.func75 (by kernel_rfl) rfl _ _,?_⟩);rw[Ky];exact Nk w Bd p gm cm gl s rv K A n c ws _ l hP hL hT hK hc
 by_cases hCvt:t=pz
 ·subst hCvt;refine .inr (.inl ⟨76,hM.aqf,fun _ _=>enters_of Tryz.func76 (by kernel_rfl) rfl _ _,?_⟩);rw[YC];exact Xq w Bd p gm cm gl s rv K A n c ws _ l hP hL hT hK hc
 by_cases hFunc:t=rY
 ·subst hFunc;refine .inr (.inl ⟨77,hM.aqb,fun _ _=>enters_of Tryz.func77 (by kernel_rfl) rfl _ _,?_⟩);rw[UK];exact Sm w Bd p gm cm gl s rv K A n c ws _ l hP hL hT hK hc fF ng
 by_cases hClass:t=uN
 ·subst hClass;refine .inr (.inl ⟨78,hM.apS,fun _ _=>enters_of Tryz.func78 (by kernel_rfl) rfl _ _,?_⟩);rw[Z4];exact QW w Bd p gm cm gl s rv K A n c ws _ l hP hL hT hc
 by_cases hGlyph:t=eQ
 ·subst hGlyph;refine .inr (.inl ⟨79,hM.ap3,fun _ _=>enters_of Tryz.func79 (by kernel_rfl) rfl _ _,?_⟩);rw[Rf];exact QP w Bd p gm cm gl s rv K A n c ws _ l hP hL hT hK
 by_cases hContour:t=iW
 ·subst hContour;refine .inr (.inr ⟨129,jy,jv,hM.apG,fun _ _=>enters_of Tryz.func129 (by kernel_rfl) rfl _ _,?_⟩);rw[FV];exact pO 81 (fun _ _=>enters_of Tryz.func81 (by kernel_rfl) rfl _ _) w Bd p gm cm gl s rv K (K+n) A n c jy jv (gK s l) hP (hM.anZ.par.cell 0) (hM.anZ.fn.cell 0) (fun e=>by unfold gK;rw[if_pos e])
   (fun init g hs G n0 c9 h0=>Ik w.drew Bd p gm cm gl s rv K A n c ws _ l (hP.drewN 1) hL.drew hT hK9 hc hs h0 rfl) hK
 by_cases hPart:t=pX
 ·subst hPart;refine .inr (.inr ⟨129,ql,qh,hM.ap9,fun _ _=>enters_of Tryz.func129 (by kernel_rfl) rfl _ _,?_⟩);rw[UG];exact pO 82 (fun _ _=>enters_of Tryz.func82 (by kernel_rfl) rfl _ _) w Bd p gm cm gl s rv K (K+n) A n c ql qh (oL gl s l) hP (hM.aoj.par.cell 0) (hM.aoj.fn.cell 0) (fun e=>by unfold oL;rw[if_pos e])
   (fun init g hs G n0 c9 h0=>SY w.drew Bd p gm cm gl s rv K A n c ws _ l (hP.drewN 1) hL.drew hT hK hs h0 rfl) hK
 by_cases hAnchor:t=kC
 ·subst hAnchor;refine .inr (.inr ⟨129,kF,kD,hM.apO,fun _ _=>enters_of Tryz.func129 (by kernel_rfl) rfl _ _,?_⟩);rw[KH];exact pO 83 (fun _ _=>enters_of Tryz.func83 (by kernel_rfl) rfl _ _) w Bd p gm cm gl s rv K (K+n) A n c kF kD (iT s l) hP (hM.an9.par.cell 0) (hM.an9.fn.cell 0) (fun e=>by unfold iT;rw[if_pos e])
   (fun init g hs G n0 c9 h0=>MP w.drew Bd p gm cm gl s rv K A n c ws _ l (hP.drewN 1) hL.drew hT hK fF.drew hs h0 rfl) hK
 by_cases hDelta:t=nC
 ·subst hDelta;refine .inr (.inr ⟨129,nD,mV,hM.apQ,fun _ _=>enters_of Tryz.func129 (by kernel_rfl) rfl _ _,?_⟩);rw[Qi];exact pO 84 (fun _ _=>enters_of Tryz.func84 (by kernel_rfl) rfl _ _) w Bd p gm cm gl s rv K (K+n) A n c nD mV (lL s l) hP (hM.aoo.par.cell 0) (hM.aoo.fn.cell 0) (fun e=>by unfold lL;rw[if_pos e])
   (fun init g hs G n0 c9 h0=>Q5 w.drew Bd p gm cm gl s rv K A n c ws _ l (hP.drewN 1) hL.drew hT hK hc hs h0 rfl) hK
 by_cases hHint:t=sS
 ·subst hHint;refine .inr (.inr ⟨129,qj,qp,hM.aqa,fun _ _=>enters_of Tryz.func129 (by kernel_rfl) rfl _ _,?_⟩);rw[TM];exact pO 85 (fun _ _=>enters_of Tryz.func85 (by kernel_rfl) rfl _ _) w Bd p gm cm gl s rv K (K+n) A n c qj qp (oI s l) hP (hM.aox.par.cell 0) (hM.aox.fn.cell 0) (fun e=>by unfold oI;rw[if_pos e])
   (fun init g hs G n0 c9 h0=>Si w.drew Bd p gm cm gl s rv K A n c ws _ l (hP.drewN 1) hL.drew hT hK hc fF.drew ng hs h0 rfl) hK
 by_cases hChar:t=rF
 ·subst hChar;refine .inr (.inl ⟨86,hM.aqc,fun _ _=>enters_of Tryz.func86 (by kernel_rfl) rfl _ _,?_⟩);rw[UB];exact TI w Bd p gm cm gl s rv K A n c ws _ l hP hL hT hK
 by_cases hLookup:t=lU
 ·subst hLookup;refine .inr (.inl ⟨87,hM.apM,fun _ _=>enters_of Tryz.func87 (by kernel_rfl) rfl _ _,?_⟩);rw[MG];exact Ob w Bd p gm cm gl s rv K A n c ws _ l hP hL hT hK fF
 by_cases hRule:t=mF
 ·subst hRule;refine .inr (.inr ⟨133,pY,qf,hM.ap8,fun _ _=>enters_of Tryz.func133 (by kernel_rfl) rfl _ _,?_⟩);rw[Uw];exact PL 89 (fun _ _=>enters_of Tryz.func89 (by kernel_rfl) rfl _ _) w Bd p gm cm gl s rv K (K+n) A n c pY qf (eF gl s l) hP (hM.aoQ.par.cell 0) (hM.aoQ.fn.cell 0) (fun e=>by unfold eF;rw[e];rfl)
   (fun init g hs G n0 c9 h0=>Tj w.drew Bd p gm cm gl s rv K A n c ws _ l (hP.drewN 1) hL.drew hT hK hc hs h0 rfl) hK
 by_cases hFeature:t=jo
 ·subst hFeature;refine .inr (.inl ⟨90,hM.apz,fun _ _=>enters_of Tryz.func90 (by kernel_rfl) rfl _ _,?_⟩);rw[Gx];exact Ig w Bd p gm cm gl s rv K A n c ws _ l hP hL hT hK hc
 refine .inl ⟨hM.none t hUnit hAxis hRegion hCvt hFunc hClass hGlyph hContour hPart hAnchor hDelta hHint hChar hLookup hRule hFeature,?_⟩;simp only[stmt,hUnit,hAxis,hRegion,hCvt,hFunc,hClass,hGlyph,hContour,hPart,hAnchor,hDelta,hHint,hChar,hLookup,hRule,hFeature,if_false]
def dQ (fs:Nat->Value)(j:Nat)(u:Value):Nat->Value:=fun i=>if i=j then u else fs i
theorem J7 (fs:Nat->Value)(j:Nat)(u v:Value):dQ (dQ fs j u) j v=dQ fs j v:=by
 funext i
 unfold dQ;split<;>rfl
theorem eG (fs:Nat->Value)(j:Nat)(u:Value):dQ fs j u j=u:=if_pos rfl
theorem bi {fs:Nat->Value}{j i:Nat}{u:Value}(h:i≠j):dQ fs j u i=fs i:=if_neg h
section
variable {w w2:World} {m:Nat} {fs:Nat->Value} {lp:Int}
theorem Mk.put (h:Mk w m fs lp)(j:Nat)(hj:j<9)(u:Value):Mk (w.setCell ⟨m,j+2,none⟩ u) m (dQ fs j u) lp:=by
 have:j=0\/j=1\/j=2\/j=3\/j=4\/j=5\/j=6\/j=7\/j=8:=by omega
 rcases this with rfl|rfl|rfl|rfl|rfl|rfl|rfl|rfl|rfl<;>exact h.set _ u (fun A n c a=>by simp[mkV,dQ])
theorem Mk.loops (h:Mk w m fs lp)(l:Int):Mk (w.setCell ⟨m,11,none⟩ (.int .i64 l)) m fs l:=h.set _ _ (fun A n c a=>by simp[mkV])
theorem Mk.bk (h:Mk w m fs lp):∃cs,Bk w m mY cs:=by obtain⟨A,n,c,a,zs,h1,-⟩:=h;exact⟨_,h1⟩
theorem Mk.sp (h:Mk w m fs lp)(j:Nat)(u:Value):Sp m mY w (w.setCell ⟨m,j,none⟩ u):=by obtain⟨cs,hb⟩:=h.bk;exact Sp.set hb (ag _) j u
theorem Mk.mvp (_h:Mk w m fs lp)(j:Nat)(u:Value):Mv m w (w.setCell ⟨m,j,none⟩ u):=bn (World.grownBy.refl _ _) (.inl rfl) u
theorem Mk.at' (h:Mk w m fs lp)(j:Nat)(hj:j<9){u:Value}(hu:fs j=u):w.cell? ⟨m,j+2,none⟩=some u:=by rw[h.cells.1 j hj,hu]
end
abbrev nS:TypeId:=72
abbrev KP:List TypeId:=[dC,aY,tRow,vO]
def aai (x:Int×Bool):List Value:=[.int .i64 x.1,.bool x.2,.slice none 0 0]
def uq (l:List (Int×Bool)):List Value:=l.flatMap aai
structure L1 (w:World)(m:Nat)(fs:Nat->Value)(lp:Int)(bs:List (Int×Bool))(A:Option Addr)(c:Nat)(ks:List Int)(Ac:Option Addr)(cc:Nat)(wr:World):Prop where
 mkr:Mk wr m (dQ fs 3 (.slice A bs.length c)) lp
 row:wr.ownsRow w.heap.size nS 3 (.slice A bs.length c) bs.length (uq bs)
 cal:wr.ownsRow w.heap.size aY 1 (.slice Ac ks.length cc) ks.length (aP ks)
 mv:Mv m w wr
section
variable {w wr w2:World} {m:Nat} {fs:Nat->Value} {lp:Int} {bs:List (Int×Bool)} {A:Option Addr} {c:Nat} {ks:List Int} {Ac:Option Addr} {cc:Nat}
theorem L1.next (h:L1 w m fs lp bs A c ks Ac cc wr)(hm:Mk w2 m (dQ fs 3 (.slice A bs.length c)) lp)(hv:Mv m wr w2):L1 w m fs lp bs A c ks Ac cc w2:=by have s:=Sp.next h.mkr hv;exact⟨hm,s.own h.row (by decide),s.own h.cal (by decide),gy h.mv hv⟩
theorem L1.below (h:L1 w m fs lp bs A c ks Ac cc wr)(hb:Below wr.heap.size wr w2):L1 w m fs lp bs A c ks Ac cc w2:=by have s:Sp m mY wr w2:=Sp.below hb;exact⟨h.mkr.below hb,s.own h.row (by decide),s.own h.cal (by decide),jM h.mv hb⟩
theorem L1.drew (h:L1 w m fs lp bs A c ks Ac cc wr):L1 w m fs lp bs A c ks Ac cc wr.drew:=h.below (aqk _ _).drew
theorem L1.more (h:L1 w m fs lp bs A c ks Ac cc wr)(hmw:m<w.heap.size){n:Nat}(hn:bs.length=n)(hl:n<=1000)(k:Int)(b:Bool):
  ∃B d w9,(Builtin.append_ #[26,26] 26 #[.slice A n c,.slice (some ⟨wr.heap.size,0,none⟩) 1 1]).run Tryz.prog (wr.alloc (.cells #[.int .i64 k,.bool b,.slice none 0 0] nS))= .ok (.slice B (n+1) d) w9/\
   w9.cell? ⟨m,5,none⟩=some (.slice A n c)/\w9.frozen? ⟨m,5,none⟩=false/\m<w9.heap.size/\L1 w m fs lp (bs++[(k,b)]) B d ks Ac cc (w9.setCell ⟨m,5,none⟩ (.slice B (n+1) d)):=by
 subst hn;obtain⟨B,d,w9,hrun,aZ,aB,bD⟩:=iG QM 26 wr w.heap.size _ c A _ #[.int .i64 k,.bool b,.slice none 0 0] rfl h.row (by simp[Value.oneCell']) (by omega) h.mv.size;have s:Sp m nS wr w9:=Sp.push h.row (by omega) aB;have pG:=s.mk h.mkr (by decide);have hn:(bs++[(k,b)]).length=bs.length+1:=by simp
 have ho:w9.ownsRow w.heap.size nS 3 (.slice B (bs++[(k,b)]).length d) (bs++[(k,b)]).length (uq (bs++[(k,b)])):=by rw[hn];simpa [uq,aai] using aZ
 have s2:=pG.sp 5 (.slice B (bs.length+1) d);have OZ:=pG.put 3 (by omega) (.slice B (bs.length+1) d);rw[J7] at OZ;refine⟨B,d,w9,hrun,pG.at' 3 (by omega) (eG _ _ _),pG.frozen 5,pG.lt,by rw[hn];exact OZ,s2.own ho (by decide),s2.own (s.own h.cal (by decide)) (by decide),gy (kE h.mv h.row (ag _) aB) (pG.mvp 5 _)⟩
theorem L1.call (h:L1 w m fs lp bs A c ks Ac cc wr)(hmw:m<w.heap.size){B:Option Addr}{d:Nat}{x:Int}(ho:w2.ownsRow w.heap.size aY 1 (.slice B (ks.length+1) d) (ks.length+1) (aP ks++[.int .i64 x]))(hg:wr.grownBy w2 (Value.slice Ac ks.length cc).ownBlock):L1 w m fs lp bs A c (ks++[x]) B d w2:=by
 have s:Sp m aY wr w2:=Sp.push h.cal (by omega) hg;have hn:(ks++[x]).length=ks.length+1:=by simp
 refine⟨s.mk h.mkr (by decide),s.own h.row (by decide),?_,kE h.mv h.cal (ag _) hg⟩;rw[hn];simpa [aP,cI] using ho
end
structure L2 (w:World)(m:Nat)(fs:Nat->Value)(lp:Int)(n:Nat)(A:Option Addr)(c:Nat)(dc:List Value)(ls:List Lookup)(mid:List Value)(rest:List (Int×Bool))(ks:List Int)(Ac:Option Addr)(cc:Nat)(top:Nat)(wr:World):Prop where
 mkr:Mk wr m (dQ fs 3 (.slice A n c)) lp
 row:wr.ownsRow w.heap.size nS 3 (.slice A n c) n (dc++(mid++uq rest))
 done:Fl anV 3 wr (TR KP w.heap.size top wr) dc ls
 cal:wr.ownsRow w.heap.size aY 1 (.slice Ac ks.length cc) ks.length (aP ks)
 mv:Mv m w wr
 top:w.heap.size<=top/\top<=wr.heap.size
section
variable {w wr w2:World} {m:Nat} {fs:Nat->Value} {lp:Int} {n:Nat} {A:Option Addr} {c:Nat} {dc:List Value} {ls:List Lookup} {mid:List Value} {rest:List (Int×Bool)} {ks:List Int} {Ac:Option Addr} {cc top:Nat}
theorem L1.two {bs:List (Int×Bool)}(h:L1 w m fs lp bs A c ks Ac cc wr):L2 w m fs lp bs.length A c [] [] [] bs ks Ac cc wr.heap.size wr:=⟨h.mkr,by simpa using h.row,Fl.nil,h.cal,h.mv,h.mv.size,ag _⟩
theorem L2.next (h:L2 w m fs lp n A c dc ls mid rest ks Ac cc top wr)(hmw:m<w.heap.size)(hm:Mk w2 m (dQ fs 3 (.slice A n c)) lp)(hv:Mv m wr w2):L2 w m fs lp n A c dc ls mid rest ks Ac cc top w2:=by have s:=Sp.next h.mkr hv;have hz:=hv.size;exact⟨hm,s.own h.row (by decide),h.done.moved anV.ok (TR.step hv (fun x hx=>by injection hx with hx;exact .inl (by omega))),s.own h.cal (by decide),gy h.mv hv,h.top.1,nt h.top.2 hz⟩
theorem L2.below (h:L2 w m fs lp n A c dc ls mid rest ks Ac cc top wr)(hb:Below wr.heap.size wr w2):L2 w m fs lp n A c dc ls mid rest ks Ac cc top w2:=by have s:Sp m mY wr w2:=Sp.below hb;exact⟨h.mkr.below hb,s.own h.row (by decide),h.done.moved anV.ok (TR.step (aH hb none) (fun x hx=>by cases hx)),s.own h.cal (by decide),jM h.mv hb,h.top.1,nt h.top.2 hb.size⟩
theorem L2.drew (h:L2 w m fs lp n A c dc ls mid rest ks Ac cc top wr):L2 w m fs lp n A c dc ls mid rest ks Ac cc top wr.drew:=h.below (aqk _ _).drew
theorem L2.calls (h:L2 w m fs lp n A c dc ls mid rest ks Ac cc top wr)(hk:∀x∈ks,I64 x):Sl anO 1 wr (TR [aY] w.heap.size wr.heap.size wr) Ac ks:=zn h.cal (jH _ _ ks hk) (by simp) (ag _) (by omega)
theorem L2.head {k:Int}{b:Bool}{r:List (Int×Bool)}(h:L2 w m fs lp n A c dc ls [] ((k,b)::r) ks Ac cc top wr):L2 w m fs lp n A c dc ls [.int .i64 k,.bool b,.slice none 0 0] r ks Ac cc top wr:=by refine⟨h.mkr,?_,h.done,h.cal,h.mv,h.top⟩;have:=h.row;simpa [uq,aai] using this
theorem L2.cells {k:Int}{b:Bool}{v:Value}(h:L2 w m fs lp n A c dc ls [.int .i64 k,.bool b,v] rest ks Ac cc top wr):∃g,A=some ⟨g,0,none⟩/\g<wr.heap.size/\wr.cell? ⟨g,ls.length*3,none⟩=some (.int .i64 k)/\wr.cell? ⟨g,ls.length*3+1,none⟩=some (.bool b)/\wr.cell? ⟨g,ls.length*3+2,none⟩=some v/\(∀j,wr.frozen? ⟨g,j,none⟩=false)/\ls.length<n/\w.heap.size<=g:=by
 have hr:=h.row;have hl:=hr.1;have hd:=h.done.1;simp only[az,ay,ln,hd] at hl;have hn:ls.length<n:=by omega
 obtain⟨g,rfl⟩:∃g,A=some ⟨g,0,none⟩:=by
  rcases hr.2 with⟨-,h2⟩|⟨g,cap,cur,h1,-⟩
  ·omega
  simp only[arf,true_and] at h1;exact⟨g,h1.1⟩
 have hlt:=hr.lt g rfl;have hat:∀j (u:Value),(dc++([.int .i64 k,.bool b,v]++uq rest))[j]? =some u->wr.cell? ⟨g,j,none⟩=some u:=fun j u hu=>by
  have:=hr.cells (g:=g) rfl j u hu
  rwa [addr_add,aq2] at this
 refine⟨g,rfl,hlt.2,hat _ _ ?_,hat _ _ ?_,hat _ _ ?_,fun j=>hr.frozenAt j,hn,hlt.1⟩
 ·rw[aqI (by omega),hd,Nat.sub_self];rfl
 ·rw[aqI (by omega),hd,show ls.length*3+1 - ls.length*3=1 by omega];rfl
 rw[aqI (by omega),hd,show ls.length*3+2 - ls.length*3=2 by omega];rfl
theorem L2.at' {k:Int}{b:Bool}{v:Value}{g:Nat}(h:L2 w m fs lp n (some ⟨g,0,none⟩) c dc ls [.int .i64 k,.bool b,v] rest ks Ac cc top wr):wr.cell? ⟨g,ls.length*3,none⟩=some (.int .i64 k)/\wr.cell? ⟨g,ls.length*3+2,none⟩=some v/\g<wr.heap.size:=by
 obtain⟨g',hg',hgz,e0,-,e2,-,-,-⟩:=h.cells;have e:g'=g:=by simpa using hg'.symm
 subst e;exact⟨e0,e2,hgz⟩
theorem L2.skip {k:Int}{b:Bool}(h:L2 w m fs lp n A c dc ls [.int .i64 k,.bool b,.slice none 0 0] rest ks Ac cc top wr)(hk:I64 k):L2 w m fs lp n A c (dc++[.int .i64 k,.bool b,.slice none 0 0]) (ls++[⟨k,b,[]⟩]) [] rest ks Ac cc top wr:=by refine⟨h.mkr,?_,h.done.append (Fl.one ⟨none,0,rfl,hk,Sl.nil⟩ rfl),h.cal,h.mv,h.top⟩;have:=h.row;simpa using this
end
structure L3 (w:World)(m:Nat)(fs:Nat->Value)(lp:Int)(n:Nat)(A:Option Addr)(c:Nat)(dc:List Value)(ls:List Lookup)(k:Int)(b:Bool)(rs:List aom)(Ar:Option Addr)(cr:Nat)(rc:List Value)(rest:List (Int×Bool))(ks:List Int)(Ac:Option Addr)(cc:Nat)(top hi:Nat)(wr:World):Prop where
 two:L2 w m fs lp n A c dc ls [.int .i64 k,.bool b,.slice Ar rs.length cr] rest ks Ac cc top wr
 ao3:wr.ownsRow top dC 6 (.slice Ar rs.length cr) rs.length rc
 rfl':Fl an7 6 wr (TR jf top hi wr) rc rs
 hi':top<=hi/\hi<=wr.heap.size
section
variable {w wr w2:World} {m:Nat} {fs:Nat->Value} {lp:Int} {n:Nat} {A:Option Addr} {c:Nat} {dc:List Value} {ls:List Lookup} {k:Int} {b:Bool} {rs:List aom} {Ar:Option Addr} {cr:Nat} {rc:List Value} {rest:List (Int×Bool)} {ks:List Int} {Ac:Option Addr} {cc top hi:Nat}
theorem L2.three (h:L2 w m fs lp n A c dc ls [.int .i64 k,.bool b,.slice none 0 0] rest ks Ac cc top wr):L3 w m fs lp n A c dc ls k b [] none 0 [] rest ks Ac cc wr.heap.size wr.heap.size wr:=⟨⟨h.mkr,h.row,h.done.mono anV.ok (TR.sub (fun _ h=>h) (ag _) h.top.2),h.cal,h.mv,nt h.top.1 h.top.2,ag _⟩,World.ownsRow_nil _ _ _ _,Fl.nil,ag _,ag _⟩
theorem L3.next (h:L3 w m fs lp n A c dc ls k b rs Ar cr rc rest ks Ac cc top hi wr)(hmw:m<w.heap.size)(hm:Mk w2 m (dQ fs 3 (.slice A n c)) lp)(hv:Mv m wr w2):L3 w m fs lp n A c dc ls k b rs Ar cr rc rest ks Ac cc top hi w2:=by have s:=Sp.next h.two.mkr hv;have ht:=h.two.top;exact⟨h.two.next hmw hm hv,s.own h.ao3 (by decide),h.rfl'.moved an7.ok (TR.step hv (fun x hx=>by injection hx with hx;exact .inl (by omega))),h.hi'.1,nt h.hi'.2 hv.size⟩
theorem L3.drew (h:L3 w m fs lp n A c dc ls k b rs Ar cr rc rest ks Ac cc top hi wr):L3 w m fs lp n A c dc ls k b rs Ar cr rc rest ks Ac cc top hi wr.drew:=⟨h.two.drew,h.ao3,h.rfl',h.hi'⟩
theorem L3.more (h:L3 w m fs lp n A c dc ls k b rs Ar cr rc rest ks Ac cc top hi wr)(hmw:m<w.heap.size){nr:Nat}(hnr:rs.length=nr)(hl:nr<=1000){g:Nat}(hA:A=some ⟨g,0,none⟩){lo:Nat}(hlo:top<=lo)(r:aom){B0 B1 B2 B3 B4:Option Addr}{d0 d1 d2 d3 d4:Nat}(hx:I64 r.x)
  (s0:Sl anN 1 wr (TS jf lo wr) B0 r.back) (s1:Sl anN 1 wr (TS jf lo wr) B1 r.in') (s2:Sl anN 1 wr (TS jf lo wr) B2 r.ahead) (s3:Sl anO 1 wr (TS jf lo wr) B3 r.out) (s4:Sl aov 2 wr (TS jf lo wr) B4 r.calls):
  ∃B d w9 rc',(Builtin.append_ #[70,70] 70 #[.slice Ar nr cr,.slice (some ⟨wr.heap.size,0,none⟩) 1 1]).run Tryz.prog (wr.alloc (.cells #[.slice B0 r.back.length d0,.slice B1 r.in'.length d1,.slice B2 r.ahead.length d2,.slice B3 r.out.length d3,.slice B4 r.calls.length d4,.int .i64 r.x] dC))= .ok (.slice B (nr+1) d) w9/\
   w9.cell? ⟨m,5,none⟩=some (.slice A n c)/\w9.cell? ⟨g,ls.length*3,none⟩=some (.int .i64 k)/\w9.cell? ⟨g,ls.length*3+2,none⟩=some (.slice Ar nr cr)/\w9.frozen? ⟨g,ls.length*3+2,none⟩=false/\g<w9.heap.size/\L3 w m fs lp n A c dc ls k b (rs++[r]) B d rc' rest ks Ac cc top wr.heap.size (w9.setCell ⟨g,ls.length*3+2,none⟩ (.slice B (nr+1) d)):=by
 subst hnr;have ht:=h.two.top;obtain⟨B,d,w9,hrun,aZ,aB,bD⟩:=iG Ph 70 wr top _ cr Ar _ #[.slice B0 r.back.length d0,.slice B1 r.in'.length d1,.slice B2 r.ahead.length d2,.slice B3 r.out.length d3,.slice B4 r.calls.length d4,.int .i64 r.x] rfl h.ao3 (by simp[Value.oneCell']) (by omega) ht.2;have s:Sp m dC wr w9:=Sp.push h.ao3 (by omega) aB;have Zb:=aB.size;have two9:L2 w m fs lp n A c dc ls [.int .i64 k,.bool b,.slice Ar rs.length cr] rest ks Ac cc top w9:=⟨s.mk h.two.mkr (by decide),s.own h.two.row (by decide),h.two.done.moved anV.ok (TR.step aB (fun x hx=> .inr (h.ao3.lt x hx).1)),s.own h.two.cal (by decide),kE h.two.mv h.ao3 (by omega) aB,ht.1,by omega⟩
 obtain⟨g',hg',hgl,e0,e1,e2,ef,hn,hgw⟩:=two9.cells;have eg:g=g':=by have:=hA.symm.trans hg';simpa using this
 subst eg;have hn2:(rs++[r]).length=rs.length+1:=by simp
 have one:Fl an7 6 wr (TR jf top wr.heap.size wr) [.slice B0 r.back.length d0,.slice B1 r.in'.length d1,.slice B2 r.ahead.length d2,.slice B3 r.out.length d3,.slice B4 r.calls.length d4,.int .i64 r.x] [r]:=Fl.one ⟨B0,d0,B1,d1,B2,d2,B3,d3,B4,d4,rfl,hx,s0.mono anN.ok (TR.ao6 hlo),s1.mono anN.ok (TR.ao6 hlo),s2.mono anN.ok (TR.ao6 hlo),s3.mono anO.ok (TR.ao6 hlo),s4.mono aov.ok (TR.ao6 hlo)⟩ rfl;have all:=(h.rfl'.mono an7.ok (TR.sub (fun _ h=>h) (ag _) h.hi'.2)).append one;have abz:Fl an7 6 w9 (TR jf top wr.heap.size w9) _ (rs++[r]):=all.moved an7.ok (by
  have key:∀b,TR jf top wr.heap.size wr b->w9.heap[b]? =wr.heap[b]? :=fun b ⟨h1,cs,t,hk,htt⟩=>aB.block b hk.lt (fun e=>by
   obtain⟨cur,hb⟩:=jK h.ao3 b e.symm;have:=(bY hb hk).1;subst this;exact absurd htt (by decide))
  exact⟨key,fun b hb=>by
   obtain⟨h1,cs,t,hk,htt⟩:=hb;exact⟨h1,cs,t,(key b ⟨h1,cs,t,hk,htt⟩).trans hk,htt⟩⟩)
 obtain⟨cs,hbk⟩:∃cs,Bk w9 g nS cs:=by obtain⟨cur,hk⟩:=jK two9.row g (by rw[hA];rfl);exact⟨_,hk⟩
 have s2':Sp m nS w9 (w9.setCell ⟨g,ls.length*3+2,none⟩ (.slice B (rs.length+1) d)):=Sp.set hbk (by omega) _ _;have hgr:w9.grownBy (w9.setCell ⟨g,ls.length*3+2,none⟩ (.slice B (rs.length+1) d)) (some g):=bn (World.grownBy.refl _ _) (.inl rfl) _;have hrow:=two9.row;rw[hA] at hrow;have hst:=(hrow.stored (ls.length*3+2) (.slice B (rs.length+1) d)).1;have hset:(dc++([Value.int .i64 k,.bool b,.slice Ar rs.length cr]++uq rest)).set (ls.length*3+2) (.slice B (rs.length+1) d)=dc++([Value.int .i64 k,.bool b,.slice B (rs.length+1) d]++uq rest):=by rw[List.set_append_right _ _ (by rw[two9.done.1];omega),two9.done.1,show ls.length*3+2 - ls.length*3=2 by omega];rfl
 have tl:∀(ts:List TypeId) (lo hi:Nat),nS ∉ ts->Same (TR ts lo hi w9) w9 (w9.setCell ⟨g,ls.length*3+2,none⟩ (.slice B (rs.length+1) d))/\∀b,TR ts lo hi w9 b->TR ts lo hi (w9.setCell ⟨g,ls.length*3+2,none⟩ (.slice B (rs.length+1) d)) b:=fun ts lo hi hts=>by
  have key:∀b,TR ts lo hi w9 b->(w9.setCell ⟨g,ls.length*3+2,none⟩ (.slice B (rs.length+1) d)).heap[b]? =w9.heap[b]? :=fun b' ⟨h1,cs',t,hk,htt⟩=>hgr.block b' hk.lt (fun e=>by
   injection e with e
   subst e;have:=(bY hbk hk).1;subst this;exact hts htt)
  exact⟨key,fun b' hb=>by
   obtain⟨h1,cs',t,hk,htt⟩:=hb;exact⟨h1,cs',t,(key b' ⟨h1,cs',t,hk,htt⟩).trans hk,htt⟩⟩
 refine⟨B,d,w9,_,hrun,two9.mkr.at' 3 (by omega) (eG _ _ _),e0,e2,ef _,hgl,⟨s2'.mk two9.mkr (by decide),?_,two9.done.moved anV.ok (tl KP _ _ (by decide)),s2'.own two9.cal (by decide),uB two9.mv hgw _ _,ht.1,by simpa using two9.top.2⟩,?_,abz.moved an7.ok (tl jf _ _ (by decide)),ht.2,by simpa using Zb⟩
 ·rw[hset] at hst;rw[hn2,hA];exact hst
 rw[hn2];exact s2'.own aZ (by decide)
theorem L3.fin (h:L3 w m fs lp n A c dc ls k b rs Ar cr rc rest ks Ac cc top hi wr)(hk:I64 k):L2 w m fs lp n A c (dc++[.int .i64 k,.bool b,.slice Ar rs.length cr]) (ls++[⟨k,b,rs⟩]) [] rest ks Ac cc wr.heap.size wr:=by have ht:=h.two.top;have sl:Sl an7 6 wr (TR KP w.heap.size wr.heap.size wr) Ar rs:=zn h.ao3 (h.rfl'.mono an7.ok (TR.sub (by decide) ht.1 h.hi'.2)) (by decide) ht.1 (by omega);refine⟨h.two.mkr,?_,(h.two.done.mono anV.ok (TR.sub (fun _ h=>h) (ag _) ht.2)).append (Fl.one ⟨Ar,cr,rfl,hk,sl⟩ rfl),h.two.cal,h.two.mv,nt ht.1 ht.2,ag _⟩;have:=h.two.row;simpa using this
end
theorem L2.fin {w wr:World}{m:Nat}{fs:Nat->Value}{lp:Int}{n:Nat}{A:Option Addr}{c:Nat}{dc:List Value}{ls:List Lookup}{ks:List Int}{Ac:Option Addr}{cc top:Nat}(h:L2 w m fs lp n A c dc ls [] [] ks Ac cc top wr):ls.length=n/\Sl anV 3 wr (TR (nS::KP) w.heap.size wr.heap.size wr) A ls:=by
 have hl:=h.row.1;have hd:=h.done.1;simp only[aqR,uq,aq4,az,ln,hd] at hl;have hn:ls.length=n:=by omega
 refine⟨hn,?_⟩;subst hn;have hr:=h.row;simp only[aqR,uq,aq4] at hr;exact zn hr (h.done.mono anV.ok (TR.sub (by decide) (ag _) h.top.2)) (by decide) (ag _) (by omega)
end
section
attribute [-go_sem] storeVar
abbrev lH:TypeId:=32
abbrev jm:Array Value:= #[.int .i64 0,.slice none 0 0,.slice none 0 0,.slice none 0 0,.slice none 0 0,.slice none 0 0,.slice none 0 0,.slice none 0 0,.slice none 0 0]
def ao0 (w:World)(r:Except (Int×Int) Fnt)(e:Ending)(w':World):Prop:=
 Below w.heap.size w w'/\match r with
  | .ok f=>∃fc:List Value,e= .returned (.tuple #[.agg fc.toArray,.int .i64 0,.int .i64 0])/\an4 w' (Dt w') fc f
  | .error (n,c)=>e= .returned (.tuple #[.agg jm,.int .i64 n,.int .i64 c])
theorem Iq:(Tryz.prog.info? lH).map (·.size)=some 9:=by kernel_rfl
theorem Nr {fn:Func}{p u v:Tmp}{ty:TypeId}(h:fn.results= #[.cell p ty,.tmp u,.tmp v])(tmps:Array Value)(P:Program)(w:World):
  (results fn tmps).run P w=((asAddr (tmps.getD p undef)).run P w).andThen fun a w₁=>((loadVar ty a).run P w₁).andThen fun x w₂=> .ok (.tuple #[x,tmps.getD u undef,tmps.getD v undef]) w₂:=by
 simp only[results,h];simp[Sem.run_bind,Result.andThen]
theorem BZ {W:World}{g:Nat}{cs:Array Value}{v u:Value}{tmps:Array Value}(hb:Bk W g lH cs)(hsz:cs.size=9)(h2:tmps.getD 2 undef= .pointer (some ⟨g,0,none⟩))(h3:tmps.getD 3 undef=v)(h4:tmps.getD 4 undef=u):(results Tryz.f19 tmps).run Tryz.prog W= .ok (.tuple #[.agg cs,v,u]) W:=by have:=run_loadVar_row (P:=Tryz.prog) W g lH lH cs (0,0) _ hb Tryz.underlying32 rfl (by rw[Iq,hsz]);rw[Nr (fn:=Tryz.f19) (p:=2) (u:=3) (v:=4) (ty:=lH) rfl,h2,h3,h4];simp[asAddr,Result.andThen,this]
theorem aaf (w:World):(zeroValue 121).run Tryz.prog w= .ok Value.nilFunc w:=by kernel_rfl
theorem agr (w:World):(Instr.makeMap 114 none).run Tryz.prog w= .ok (.map (some w.heap.size)) (w.alloc (.map #[] 0)):=by
 simp[Instr.makeMap,Result.andThen,newObj,go_sem]
 try rfl
structure FSt (w5:World)(Bd p gm cm:Nat)(gl:Gl)(L:List (Int×List B))(rows:List (List P3))(k:Nat)(s:PS)(rv:Rows)(wr:World):Prop where
 st:PSt wr Bd p gm cm gl s rv (tot (rows.take k))
 kq:KQ cm w5 wr
 low:Below Bd w5 wr
 ok:stmts gl ps0 (L.take k)= .ok s
theorem KQ.rows {cm:Nat}{w w':World}(h:KQ cm w w'){hs:List Value}{rows:List (List P3)}(hr:RowsIn dX w hs rows):RowsIn dX w' hs rows:=hr.kept fun _ _ _ hr=>h.rdT hr (by decide) (by decide)
theorem KQ.aqj {κ :Type}{E:Emb κ}{cm:Nat}{w w':World}{b:Nat}{f: κ ->Option Value}(h:KQ cm w w')(hm:an0 E w b f)(hne:b≠cm):an0 E w' b f:=by obtain⟨es,clock,kv,h1,h2⟩:=hm;exact⟨es,clock,kv,h.same b _ h1 hne,h2⟩
theorem KQ.boxes {cm:Nat}{w w':World}(h:KQ cm w w'){t:TypeId}{p F a b:Nat}(hb:aoe w t p F a b)(h1:lK t=false)(h2:t≠jq):aoe w' t p F a b:=⟨h.bk hb.par (by decide) (by decide),h.bk hb.fn h1 h2⟩
theorem aeb {w:World}{A:Option Addr}{n k:Nat}{hs:List Value}{rows:List (List P3)}(hr:RdT w 119 A n 1 hs)(hin:RowsIn dX w hs rows)(hk:k<n):
  ∃b o r Ar kr cr,A=some ⟨b,o,none⟩/\Hid (rows[k]? =some r)/\b<w.heap.size/\w.cell? ⟨b,o+k,none⟩=some (.slice Ar kr cr)/\RdT w dX Ar kr 3 (dD r)/\kr=r.length/\kr<=cr:=UT hr hin (aqk _ _) hk
theorem ao8.kq {cm:Nat}{w w':World}{p M:Nat}{f:B->Option Value}{jy jv ql qh kF kD nD mV qj qp pY qf:Nat}(h:ao8 w p M f jy jv ql qh kF kD nD mV qj qp pY qf)(k:KQ cm w w')(hne:M≠cm):ao8 w' p M f jy jv ql qh kF kD nD mV qj qp pY qf:={h with map:=k.aqj h.map hne,anZ:=k.boxes h.anZ (by decide) (by decide),aoj:=k.boxes h.aoj (by decide) (by decide),an9:=k.boxes h.an9 (by decide) (by decide),aoo:=k.boxes h.aoo (by decide) (by decide),aox:=k.boxes h.aox (by decide) (by decide),aoQ:=k.boxes h.aoQ (by decide) (by decide)}
theorem aoi.low {w w':World}{Bd:Nat}(h:aoi w)(hb:Below Bd w w')(hn:nT<=Bd):aoi w':=by
 exact⟨h.ops.keep (hb.block _ (by
   have:0<nT:=by decide
   omega)),h.anch.keep (hb.block _ (by
     have:2<nT:=by decide
     omega)),h.kinds.keep (hb.block _ (by
       have:3<nT:=by decide
       omega))⟩
theorem aao {src:B}{k:Nat}{x:Wd}{q:List Wd}(h:(fJ src)[k]? =some (x::q)):(linesT src)[k]? =some (x.1,x.2.2::q.map (·.2.2)):=by unfold linesT;rw[aqO,h];rfl
theorem YY {src:B}{k:Nat}{no e:Int}{l:List B}{s:PS}(h:stmts (bf 0 ((linesT src).map (·.2))) ps0 ((linesT src).take k)= .ok s)(hk:(linesT src)[k]? =some (no,l))(he:stmt (bf 0 ((linesT src).map (·.2))) s l= .error e):dw src= .error (no,e):=by unfold dw;rw[ZK h hk he];rfl
theorem U5 {src:B}{s:PS}(h:stmts (bf 0 ((linesT src).map (·.2))) ps0 (linesT src)= .ok s):dw src= .ok s.f:=by unfold dw;rw[h];rfl
theorem VN (src:B):(linesT src).map (·.2)=aX (fJ src):=by unfold linesT aX;rw[aq5];rfl
theorem oh (w:World)(src:B)(hs:src.length<=100000000)(fF:aoi w)(ng:nT<=w.heap.size):Calls Tryz.prog 19 #[.string ⟨src.toArray⟩] w (ao0 w (dw src)):=by
 have hmk:=fun w=>agr w
 go_enter Tryz.func19,Tryz.ntmps19
 go_wp2_with fail
 refine(ab9 _ src hs).mono ?_;rintro e w1 ⟨v,rfl,A,c,hs1,rfl,hrd,hri,hb1⟩;have hlm:∀r∈fJ src,r.length<=100000000/\∀x∈r,x.2.2.length<=100000000:=RZ src hs;have hR1:Bk w1 w.heap.size lH jm:=(Bk.new w lH jm).keep (hb1.block _ (by simp));have hT1:aoi w1:=(fF.below ((aqk _ _).alloc (ag _) _)).below hb1;have hz1:w.heap.size+1<=w1.heap.size:=by have:=hb1.size;simpa using this
 have hlw:Below w.heap.size w w1:=((aqk w.heap.size w).alloc (ag _) (.cells jm lH)).trans (hb1.mono (by simp));have hfew:=ZT src;have htot:=Lc src;have hgl:=NG w1 A (fJ src).length c (fJ src) hs1 hrd hri (by omega) (EO src) (fun r hr=>⟨by have:=(hlm r hr).1;omega,(hlm r hr).2⟩);rw[<-VN] at hgl;have hgI:Hid (∀t n,(bf 0 ((linesT src).map (·.2))).lookup t=some n->n<=1000000000):=fun t n h=>by
  have h1:=X7 0 _ t n h;have h2:=Ua ((linesT src).map (·.2));rw[VN] at h2;unfold aX at h2;rw[aqs] at h2;rw[VN] at h1;unfold aX at h1;omega
 have HPB:Hid (∀(k:Nat) (no e:Int) (l:List B) (s:PS),stmts (bf 0 ((linesT src).map (·.2))) ps0 ((linesT src).take k)= .ok s->(linesT src)[k]? =some (no,l)->stmt (bf 0 ((linesT src).map (·.2))) s l= .error e->dw src= .error (no,e)):=fun k no e l s h1 h2 h3=>YY h1 h2 h3
 have HPG:Hid (∀s,stmts (bf 0 ((linesT src).map (·.2))) ps0 (linesT src)= .ok s->dw src= .ok s.f):=fun s h=>U5 h
 have HLA:Hid (∀(k:Nat) (x:Wd) (q:List Wd),(fJ src)[k]? =some (x::q)->(linesT src)[k]? =some (x.1,x.2.2::q.map (·.2.2))):=fun k x q h=>aao h
 have HNE:=hd0 (EO src);have hlen2:Hid ((linesT src).length=(fJ src).length):=by show _=_;unfold linesT;rw[aqs]
 generalize bf 0 ((linesT src).map (·.2))=gl at*
 have HT1:=hd0 hT1;have HR1:=hd0 hR1;have HLW:=hd0 hlw;have Hg:=hd0 hrd;have HRI:=hd0 hri;have HLM:=hd0 hlm;generalize linesT src=LT at*
 generalize fJ src=LL at*
 generalize uj:dw src=PA at*
 clear uj hT1 hR1 hlw hrd hri hlm hb1 fF;go_wp2_with fail
 refine hgl.mono ?_;rintro e w2 ⟨gm,rfl,hgm,hgF,hb2⟩;have hz2:=hb2.size;have HGF:=hd0 hgF;have HB2:=hd0 hb2;clear hgl hgF hb2;go_wp2_with fail
 obtain⟨w4,hw4⟩:∃x,((w2.alloc (.map #[] 0)).alloc (.cells #[.int .i64 0,.slice none 0 0,.slice none 0 0,.slice none 0 0,.slice none 0 0,.slice none 0 0,.slice none 0 0,.slice none 0 0,.slice none 0 0,.bool false,.map (some gm),.map (some w2.heap.size)] jq))=x:=⟨_,rfl⟩
 rw[hw4];have acN:Bk w4 (w2.heap.size+1) jq (dW ps0 Gu gm w2.heap.size):=by
  have:=Bk.new (w2.alloc (.map #[] 0)) jq #[.int .i64 0,.slice none 0 0,.slice none 0 0,.slice none 0 0,.slice none 0 0,.slice none 0 0,.slice none 0 0,.slice none 0 0,.slice none 0 0,.bool false,.map (some gm),.map (some w2.heap.size)];have e:(w2.alloc (.map #[] 0)).heap.size=w2.heap.size+1:=by simp
  rw[hw4,e] at this;exact this
 have hb4:Below w2.heap.size w2 w4:=hw4 ▸ ((aqk _ _).alloc (ag _) _).alloc (by simp) _;have ae4:an0 mD w4 w2.heap.size (fun _=>none):=hw4 ▸ ((an0.new mD w2).below ((aqk _ _).alloc (ag _) _));have TK:w2.heap.size+2<=w4.heap.size:=by rw[<-hw4];simp
 clear hw4;have amA:=HGF.out.lt;have HP4:=hd0 (PSt.start (Bd:=w1.heap.size) acN (HGF.out.below hb4) ae4 hgI.out ⟨by omega,by omega,by omega,by omega⟩);have HB4:=hd0 hb4;clear acN hb4 ae4 hmk;refine(MR w4 _).mono ?_;rintro e w6 ⟨M,f,jy,jv,ql,qh,kF,kD,nD,mV,qj,qp,pY,qf,rfl,hM,aeP,hb6⟩;have ajn:=hd0 aeP;have HP6:=hd0 (HP4.out.below hb6);have h16:Below w1.heap.size w1 w6:=HB2.out.trans ((HB4.out.trans (hb6.mono (by omega))).mono hz2);have VQ:Hid (∀W,Below w1.heap.size w1 W->(storeVar lH ⟨w.heap.size,0,none⟩ (.agg jm)).run Tryz.prog W.drew= .ok () W.drew/\∀tmps (no e:Int),PA= .error (no,e)->tmps.getD 2 undef= .pointer (some ⟨w.heap.size,0,none⟩)->tmps.getD 3 undef= .int .i64 no->tmps.getD 4 undef= .int .i64 e->bodyPost Tryz.prog Tryz.f19 (ao0 w PA) Exit.ret ⟨tmps,[]⟩ W.drew):=fun W hW=>by
  have hb:Bk W w.heap.size lH jm:=HR1.out.keep (hW.block _ (by omega));refine⟨?_,fun tmps no e hp t2 t3 t4=> ?_⟩
  ·have h:=run_storeVar_row (P:=Tryz.prog) W.drew w.heap.size lH lH jm jm hb (by rw[Iq];rfl) rfl (by simp[Value.oneCell']);rw[setRow_self W.drew w.heap.size jm lH (0,0) hb] at h;exact h
  have hb2:Bk W.drew w.heap.size lH jm:=hb;refine bodyPost_ret (BZ hb2 rfl t2 t3 t4) rfl ⟨(HLW.out.trans (hW.mono HLW.out.size)).drew,?_⟩;rw[hp]
 have hz6:=hb6.size;have hne:M≠w2.heap.size:=by omega
 have hzw:w.heap.size+1<=w6.heap.size:=by omega
 have H16:=hd0 h16;clear aeP hb6 h16 HP4 HB4 HB2 HGF hgI;go_wp2_with fail
 go_loopw [24] (fun i wr=>∃k s rv,k<=LL.length/\i= .int .i64 (k:Nat)/\FSt w6 w1.heap.size (w2.heap.size+1) gm w2.heap.size gl LT LL k s rv wr) (fun i _=>LL.length - (intOf i).toNat)
 case atStart=>exact⟨0,ps0,Gu,nz _,rfl,⟨by rw[List.take_zero];exact HP6.out,KQ.refl _ _,aqk _ _,by rw[List.take_zero];rfl⟩⟩
 case round=>
  obtain⟨k,s,rv,hk,rfl,hst⟩:=hrel;have hbW:Below w1.heap.size w1 wr:=H16.out.trans hst.low;have Ls:=hd0 hbW;have zR:w.heap.size<wr.heap.size:=by have:=hbW.size;omega
  obtain⟨EJ,-⟩:=VQ.out wr hbW;by_cases hlt:k<LL.length
  ·obtain⟨b,o,r,Ar,kr,cr,rfl,hp,ab1,q1w,JG,hkr,hkc⟩:=aeb Hg.out HRI.out hlt;have q1:wr.cell? ⟨b,o+k,none⟩=some (.slice Ar kr cr):=((af hbW).1 _ _ ab1).trans q1w;have hbw:=aqu ab1 hbW.size;have hrd:=JG.below hbW;have hrm:=aqt hp.out;have hLn:aok wr Ar kr r:=⟨hrd,(HLM.out r hrm).2,by rw[hkr];have:=(HLM.out r hrm).1;omega⟩
   obtain⟨x,q,rfl⟩:∃x q,r=x::q:=by
    cases r with
    |nil=>exact absurd rfl (HNE.out _ hrm)
    |cons x q=>exact⟨x,q,rfl⟩
   have htx:ah (x::q)=x.2.2::q.map (·.2.2):=rfl;obtain⟨x1,x2,x3⟩:=x;have hkl:=HLA.out k _ q hp.out;simp only at hkl htx;obtain⟨htt,htn⟩:=aaX LL k _ hp.out;obtain⟨b1,o1,y1,y2,y3,rfl,hb1,hy,p0w,p1w,p2w⟩:=JG.rd.at3 (k:=0) (by rw[hkr];simp);have hy1:y1=x1/\y2=x2/\y3=x3:=by have:=hy.out;simp only[aqw,aqM,arb] at this;exact⟨this.1.symm,this.2.1.symm,this.2.2.symm⟩
   obtain⟨rfl,rfl,rfl⟩:=hy1;simp only[Nat.zero_mul,Nat.add_zero] at p0w p1w p2w;have p0:wr.cell? ⟨b1,o1,none⟩=some (.int .i64 y1):=((af hbW).1 _ _ hb1).trans p0w;have p2:wr.cell? ⟨b1,o1+2,none⟩=some (.string ⟨y3.toArray⟩):=((af hbW).1 _ _ hb1).trans p2w;have P0:Hid (∀W,Below w1.heap.size w1 W->W.cell? ⟨b1,o1,none⟩=some (.int .i64 y1)):=fun W hW=>((af hW).1 _ _ hb1).trans p0w
   have Z1:Hid (∀W,Below w1.heap.size w1 W->b1<W.heap.size/\w.heap.size<W.heap.size):=fun W hW=>⟨aqu hb1 hW.size,by have:=hW.size;omega⟩
   have hTk:=ajn.out.kq hst.kq hne;have hcall:=XV wr w1.heap.size (w2.heap.size+1) gm w2.heap.size gl s rv (tot (LL.take k)) _ kr cr _ y3 (q.map (·.2.2)) hTk hst.st hLn htx (by omega) hkc (HT1.out.below hbW) (by omega);have hlk:=hTk.map.ao2 Tryz.underlying117 Tryz.underlying9 (aaf wr) y3;have HST:=hd0 hst;have hk0:0<kr:=by rw[hkr];simp
   have BX:=hd0 hkl;have HKR:=hd0 (show kr=((y1,y2,y3)::q).length from hkr);rw[<-hkr] at htn;have HTN:=hd0 htn;clear hkr htn htt hst hrd JG hLn hTk hp hy htx hrm hkl q1w p0w p1w p2w ab1 hkc hbW;rcases hcall with⟨hf,he⟩|⟨F,hf,hE,hC⟩|⟨F,a,b',hf,hE,hC⟩
   ·rw[hf] at hlk;have hlk2:(Instr.lookup 117 (.map (some M)) (.string ⟨y3.toArray⟩) true).run Tryz.prog wr= .ok (.tuple #[Value.nilFunc,.bool false]) wr:=hlk;have HE:=hd0 (HPB.out k _ _ _ _ HST.out.ok BX.out he);have KI:=hd0 (VQ.out wr Ls.out).2;clear hlk hf he;go_wp2_with fail
    go_region
    all_goals
     go_wp2
     (try simp only[Exit.inBlock,Exit.then])
     exact KI.out _ _ _ HE.out rfl rfl rfl
   ·skip
    rw[hf] at hlk;have hlk2:(Instr.lookup 117 (.map (some M)) (.string ⟨y3.toArray⟩) true).run Tryz.prog wr= .ok (.tuple #[.func (.func F) #[.pointer (some ⟨w2.heap.size+1,0,none⟩)] #[],.bool true]) wr:=hlk;cases hres:stmt gl s (y3::q.map (·.2.2)) with
    |error e9=>
     rw[hres] at hC;have HC:=hd0 hC;have HE:=hd0 (HPB.out k _ _ _ _ HST.out.ok BX.out hres);have he9:(e9 !=0)=true:=by simpa using JS _ _ _ _ hres
     clear hlk hf hC hres EJ;go_wp2_with fail
     refine HC.out.mono ?_;rintro e w7 ⟨hb7,rfl⟩;have AL:=Ls.out.trans hb7;obtain⟨EJ,hfin⟩:=VQ.out w7 AL;have KI:=hd0 hfin;have p07:=P0.out w7 AL;obtain⟨zb7,zR7⟩:=Z1.out w7 AL;clear hfin hb7 AL;go_wp2_with fail
     go_region
     all_goals
      go_wp2
      (try simp only[Exit.inBlock,Exit.then])
      exact KI.out _ _ _ HE.out rfl rfl rfl
    |ok s'=>
     rw[hres] at hC;have HC:=hd0 hC;have HSN:Hid (stmts gl ps0 (LT.take (k+1))= .ok s'):=by show _=_;rw[zT HST.out.ok BX.out,hres]
     clear hlk hf hC hres EJ;go_wp2_with fail
     refine HC.out.mono ?_;rintro e w7 ⟨hb7,rfl,OG,rv',Yk⟩;have yt:Hid (FSt w6 w1.heap.size (w2.heap.size+1) gm w2.heap.size gl LT LL (k+1) s' rv' w7):=⟨by rw[HTN.out];exact Yk,HST.out.kq.trans OG,HST.out.low.trans hb7,HSN.out⟩
     clear hb7 OG Yk;go_wp2_with fail
     go_roundw
     case rel=>exact⟨k+1,s',rv',by omega,by simp,yt.out⟩
     case measure=>simp[intOf];omega
   skip
   rw[hf] at hlk;have hlk2:(Instr.lookup 117 (.map (some M)) (.string ⟨y3.toArray⟩) true).run Tryz.prog wr= .ok (.tuple #[.func (.func F) #[] #[.pointer (some ⟨a,0,none⟩),.pointer (some ⟨b',0,none⟩)],.bool true]) wr:=hlk;cases hres:stmt gl s (y3::q.map (·.2.2)) with
   |error e9=>
    rw[hres] at hC;have HC:=hd0 hC;have HE:=hd0 (HPB.out k _ _ _ _ HST.out.ok BX.out hres);have he9:(e9 !=0)=true:=by simpa using JS _ _ _ _ hres
    clear hlk hf hC hres EJ;go_wp2_with fail
    refine HC.out.mono ?_;rintro e w7 ⟨hb7,rfl⟩;have AL:=Ls.out.trans hb7;obtain⟨EJ,hfin⟩:=VQ.out w7 AL;have KI:=hd0 hfin;have p07:=P0.out w7 AL;obtain⟨zb7,zR7⟩:=Z1.out w7 AL;clear hfin hb7 AL;go_wp2_with fail
    go_region
    all_goals
     go_wp2
     (try simp only[Exit.inBlock,Exit.then])
     exact KI.out _ _ _ HE.out rfl rfl rfl
   |ok s'=>
    rw[hres] at hC;have HC:=hd0 hC;have HSN:Hid (stmts gl ps0 (LT.take (k+1))= .ok s'):=by show _=_;rw[zT HST.out.ok BX.out,hres]
    clear hlk hf hC hres EJ;go_wp2_with fail
    refine HC.out.mono ?_;rintro e w7 ⟨hb7,rfl,OG,rv',Yk⟩;have yt:Hid (FSt w6 w1.heap.size (w2.heap.size+1) gm w2.heap.size gl LT LL (k+1) s' rv' w7):=⟨by rw[HTN.out];exact Yk,HST.out.kq.trans OG,HST.out.low.trans hb7,HSN.out⟩
    clear hb7 OG Yk;go_wp2_with fail
    go_roundw
    case rel=>exact⟨k+1,s',rv',by omega,by simp,yt.out⟩
    case measure=>simp[intOf];omega
  obtain rfl:k=LL.length:=by omega
  have hall:stmts gl ps0 LT= .ok s:=by
   have:=hst.ok
   rwa [aqE (by rw[hlen2.out];exact ag _)] at this
  have HPA:=hd0 (HPG.out s hall);have hR9:Bk wr w.heap.size lH jm:=HR1.out.keep (hbW.block _ (by omega));have hdone:=hst.st.done;obtain⟨A1,c1,A2,c2,A3,c3,A4,c4,A5,c5,A6,c6,A7,c7,A8,c8,ee,d0,d1,d2,d3,d4,d5,d6,d7,d8⟩:=hst.st.done;have uj:=hst.st.par;have HDN:Hid (an4 wr (Dt wr) [.int .i64 s.f.unit,.slice A1 s.f.anL.length c1,.slice A2 s.f.chars.length c2,.slice A3 s.f.anM.length c3,.slice A4 s.f.features.length c4,.slice A5 s.f.anR.length c5,.slice A6 s.f.regions.length c6,.slice A7 s.f.funcs.length c7,.slice A8 s.f.cvt.length c8] s.f):=by show an4 _ _ _ _;rw[<-ee];exact hdone
  simp only[arc,and_true,true_and] at ee;obtain⟨e1,e2,e3,e4,e5,e6,e7,e8⟩:=ee;have m0:=uj.cell 0;have m1:=uj.cell 1;have m2:=uj.cell 2;have m3:=uj.cell 3;have m4:=uj.cell 4;have m5:=uj.cell 5;have m6:=uj.cell 6;have m7:=uj.cell 7;have m8:=uj.cell 8;simp only[dW,List.getElem?_toArray,aqz,aqw] at m0 m1 m2 m3 m4 m5 m6 m7 m8;rw[e1] at m1;rw[e2] at m2;rw[e3] at m3;rw[e4] at m4;rw[e5] at m5;rw[e6] at m6;rw[e7] at m7;rw[e8] at m8;have anG:=run_storeVar_row (P:=Tryz.prog) wr w.heap.size lH lH jm #[.int .i64 s.f.unit,.slice A1 s.f.anL.length c1,.slice A2 s.f.chars.length c2,.slice A3 s.f.anM.length c3,.slice A4 s.f.features.length c4,.slice A5 s.f.anR.length c5,.slice A6 s.f.regions.length c6,.slice A7 s.f.funcs.length c7,.slice A8 s.f.cvt.length c8] hR9 (by rw[Iq];rfl) rfl (by simp[Value.oneCell']);have iH:=hd0 hR9;have HLr:Hid (Below w.heap.size w wr):=HLW.out.trans (hbW.mono (by omega));have zp:=uj.lt;clear hst hall hR9 hdone d0 d1 d2 d3 d4 d5 d6 d7 d8 uj e1 e2 e3 e4 e5 e6 e7 e8 EJ hbW;go_wp2_with fail
  (try simp only[Exit.inBlock,Exit.then])
  refine bodyPost_ret (BZ (setRow_heap wr w.heap.size jm _ lH (0,0) iH.out) rfl rfl rfl rfl) rfl ⟨below_setRow HLr.out (ag _) _,?_⟩;rw[HPA.out];refine⟨_,rfl,?_⟩;have hsame:Same (Dt wr) wr (wr.setRow w.heap.size #[.int .i64 s.f.unit,.slice A1 s.f.anL.length c1,.slice A2 s.f.chars.length c2,.slice A3 s.f.anM.length c3,.slice A4 s.f.features.length c4,.slice A5 s.f.anR.length c5,.slice A6 s.f.regions.length c6,.slice A7 s.f.funcs.length c7,.slice A8 s.f.cvt.length c8]):=fun g ⟨cs,t,hk,hd⟩=>setRow_other _ _ _ _ (fun e=>by
   subst e;rw[(bY hk iH.out).1] at hd
   revert hd
   decide)
  exact an4.ok.mono (an4.ok.keep HDN.out hsame) (fun g ⟨cs,t,hk,hd⟩=>⟨cs,t,(hsame g ⟨cs,t,hk,hd⟩).trans hk,hd⟩)
end
end Go.Proofs.YtkijckccfookeaaGreatDoor
