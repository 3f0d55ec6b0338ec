/- Lemmas. -/
import Derived.Test.YtkijckccfookeaaGreatDoorPbF
import Derived.Test.YtkijckccfookeaaGreatDoorMkRc
import Derived.Laws.CopyOwn
set_option linter.unusedVariables false
set_option linter.unusedSimpArgs false
set_option maxRecDepth 100000
set_option maxHeartbeats 32000000
namespace Go.Proofs.YtkijckccfookeaaGreatDoor
open Go.RowKit
section
theorem alg.drew {w:World}{A:Option Addr}{n:Nat}{ws:List P3}(h:alg w A n ws):alg w.drew A n ws:=⟨h.rd.below (ant _ w).drew,h.len,h.few⟩
theorem ali.drew {w:World}(h:ali w):ali w.drew:=h.below (ant _ w).drew
def aaO (f:B->Option Value)(w:World)(Bd p gm cm:Nat)(gl:Gl)(s:PS)(K:Nat)(A:Option Addr)(n c:Nat)(t:B)(l:List B):Prop:=
 (f t=none/\stmt gl s (t::l)= .error 22)\/
 (∃F,f t=some (pV p F)/\(∀(args:Array Value) (w:World),(callFunc F args).run Tryz.prog w= .ok (.enter F args) w)/\Calls Tryz.prog F #[.pointer (some ⟨p,0,none⟩),.slice A n c] w (akO w Bd p gm cm gl (K+n) (stmt gl s (t::l))))\/
 (∃F a b,f t=some (cV F a b)/\(∀(args:Array Value) (w:World),(callFunc F args).run Tryz.prog w= .ok (.enter F args) w)/\Calls Tryz.prog F #[.slice A n c,.pointer (some ⟨a,0,none⟩),.pointer (some ⟨b,0,none⟩)] w (akO w Bd p gm cm gl (K+n) (stmt gl s (t::l))))
theorem VI {f:B->Option Value}{M:Nat}{jD jE pY qp kH kJ mM mX pX pU pW qf:Nat}(w:World)(Bd p gm cm:Nat)(gl:Gl)(s:PS)(rv:Rows)(K:Nat)(A:Option Addr)(n c:Nat)(ws:List P3)(t:B)(l:List B)(hM:amc w p M f jD jE pY qp kH kJ mM mX pX pU pW qf)(hP:PSt w Bd p gm cm gl s rv K)(hL:alg w A n ws)(hT:ag ws=t::l)(hK9:K<=1000000000)(hc:n<=c)(jH:ali w)(Bj:nT<=Bd):
  aaO f w Bd p gm cm gl s K A n c t l:=by
 have hK:K<=10000000000:=by omega
 by_cases hUnit:t=lI
 ·subst hUnit;refine .inr (.inl ⟨73,hM.anh,fun _ _=>enters_of Tryz.func73 (by kernel_rfl) rfl _ _,?_⟩);rw[RD];exact Qi w Bd p gm cm gl s rv K A n c ws _ l hP hL hT
 by_cases hAxis:t=uz
 ·subst hAxis;refine .inr (.inl ⟨74,hM.ang,fun _ _=>enters_of Tryz.func74 (by kernel_rfl) rfl _ _,?_⟩);rw[RI];exact Qs w Bd p gm cm gl s rv K A n c ws _ l hP hL hT hK
 by_cases hRegion:t=jQ
 ·subst hRegion;refine .inr (.inl ⟨75,hM.amR,fun _ _=>enters_of Tryz.func75 (by kernel_rfl) rfl _ _,?_⟩);rw[JL];exact KW w Bd p gm cm gl s rv K A n c ws _ l hP hL hT hK hc
 by_cases hCvt:t=mr
 ·subst hCvt;refine .inr (.inl ⟨76,hM.anm,fun _ _=>enters_of Tryz.func76 (by kernel_rfl) rfl _ _,?_⟩);rw[VJ];exact UG w Bd p gm cm gl s rv K A n c ws _ l hP hL hT hK hc
 by_cases hFunc:t=qo
 ·subst hFunc;refine .inr (.inl ⟨77,hM.anl,fun _ _=>enters_of Tryz.func77 (by kernel_rfl) rfl _ _,?_⟩);rw[Rn];exact PY w Bd p gm cm gl s rv K A n c ws _ l hP hL hT hK hc jH Bj
 by_cases hClass:t=yF
 ·subst hClass;refine .inr (.inl ⟨78,hM.am0,fun _ _=>enters_of Tryz.func78 (by kernel_rfl) rfl _ _,?_⟩);rw[Z9];exact MH w Bd p gm cm gl s rv K A n c ws _ l hP hL hT hc
 by_cases hGlyph:t=dY
 ·subst hGlyph;refine .inr (.inl ⟨79,hM.amX,fun _ _=>enters_of Tryz.func79 (by kernel_rfl) rfl _ _,?_⟩);rw[OD];exact OA w Bd p gm cm gl s rv K A n c ws _ l hP hL hT hK
 by_cases hContour:t=fU
 ·subst hContour;refine .inr (.inr ⟨129,jD,jE,hM.amz,fun _ _=>enters_of Tryz.func129 (by kernel_rfl) rfl _ _,?_⟩);rw[GG];exact pK 81 (fun _ _=>enters_of Tryz.func81 (by kernel_rfl) rfl _ _) w Bd p gm cm gl s rv K (K+n) A n c jD jE (jG s l) hP (hM.akV.par.cell 0) (hM.akV.fn.cell 0) (fun e=>by unfold jG;rw[if_pos e])
   (fun init g hs G n0 c9 h0=>Ir w.drew Bd p gm cm gl s rv K A n c ws _ l (hP.drewN 1) hL.drew hT hK9 hc hs h0 rfl) hK
 by_cases hPart:t=qj
 ·subst hPart;refine .inr (.inr ⟨129,pY,qp,hM.anj,fun _ _=>enters_of Tryz.func129 (by kernel_rfl) rfl _ _,?_⟩);rw[RP];exact pK 82 (fun _ _=>enters_of Tryz.func82 (by kernel_rfl) rfl _ _) w Bd p gm cm gl s rv K (K+n) A n c pY qp (uH gl s l) hP (hM.alf.par.cell 0) (hM.alf.fn.cell 0) (fun e=>by unfold uH;rw[if_pos e])
   (fun init g hs G n0 c9 h0=>PU w.drew Bd p gm cm gl s rv K A n c ws _ l (hP.drewN 1) hL.drew hT hK hs h0 rfl) hK
 by_cases hAnchor:t=kM
 ·subst hAnchor;refine .inr (.inr ⟨129,kH,kJ,hM.amS,fun _ _=>enters_of Tryz.func129 (by kernel_rfl) rfl _ _,?_⟩);rw[KJ];exact pK 83 (fun _ _=>enters_of Tryz.func83 (by kernel_rfl) rfl _ _) w Bd p gm cm gl s rv K (K+n) A n c kH kJ (kL s l) hP (hM.ak4.par.cell 0) (hM.ak4.fn.cell 0) (fun e=>by unfold kL;rw[if_pos e])
   (fun init g hs G n0 c9 h0=>Lp w.drew Bd p gm cm gl s rv K A n c ws _ l (hP.drewN 1) hL.drew hT hK jH.drew hs h0 rfl) hK
 by_cases hDelta:t=mO
 ·subst hDelta;refine .inr (.inr ⟨129,mM,mX,hM.am5,fun _ _=>enters_of Tryz.func129 (by kernel_rfl) rfl _ _,?_⟩);rw[Oy];exact pK 84 (fun _ _=>enters_of Tryz.func84 (by kernel_rfl) rfl _ _) w Bd p gm cm gl s rv K (K+n) A n c mM mX (pI s l) hP (hM.alk.par.cell 0) (hM.alk.fn.cell 0) (fun e=>by unfold pI;rw[if_pos e])
   (fun init g hs G n0 c9 h0=>OV w.drew Bd p gm cm gl s rv K A n c ws _ l (hP.drewN 1) hL.drew hT hK hc hs h0 rfl) hK
 by_cases hHint:t=nO
 ·subst hHint;refine .inr (.inr ⟨129,pX,pU,hM.ank,fun _ _=>enters_of Tryz.func129 (by kernel_rfl) rfl _ _,?_⟩);rw[RX];exact pK 85 (fun _ _=>enters_of Tryz.func85 (by kernel_rfl) rfl _ _) w Bd p gm cm gl s rv K (K+n) A n c pX pU (uG s l) hP (hM.alz.par.cell 0) (hM.alz.fn.cell 0) (fun e=>by unfold uG;rw[if_pos e])
   (fun init g hs G n0 c9 h0=>Qy w.drew Bd p gm cm gl s rv K A n c ws _ l (hP.drewN 1) hL.drew hT hK hc jH.drew Bj hs h0 rfl) hK
 by_cases hChar:t=uF
 ·subst hChar;refine .inr (.inl ⟨86,hM.anf,fun _ _=>enters_of Tryz.func86 (by kernel_rfl) rfl _ _,?_⟩);rw[Ru];exact QB w Bd p gm cm gl s rv K A n c ws _ l hP hL hT hK
 by_cases hLookup:t=gX
 ·subst hLookup;refine .inr (.inl ⟨87,hM.amV,fun _ _=>enters_of Tryz.func87 (by kernel_rfl) rfl _ _,?_⟩);rw[JU];exact Lc w Bd p gm cm gl s rv K A n c ws _ l hP hL hT hK jH
 by_cases hRule:t=dL
 ·subst hRule;refine .inr (.inr ⟨133,pW,qf,hM.ani,fun _ _=>enters_of Tryz.func133 (by kernel_rfl) rfl _ _,?_⟩);rw[Q8];exact OO 89 (fun _ _=>enters_of Tryz.func89 (by kernel_rfl) rfl _ _) w Bd p gm cm gl s rv K (K+n) A n c pW qf (fF gl s l) hP (hM.alU.par.cell 0) (hM.alU.fn.cell 0) (fun e=>by unfold fF;rw[e];rfl)
   (fun init g hs G n0 c9 h0=>Qz w.drew Bd p gm cm gl s rv K A n c ws _ l (hP.drewN 1) hL.drew hT hK hc hs h0 rfl) hK
 by_cases hFeature:t=jC
 ·subst hFeature;refine .inr (.inl ⟨90,hM.amI,fun _ _=>enters_of Tryz.func90 (by kernel_rfl) rfl _ _,?_⟩);rw[G8];exact Iy w Bd p gm cm gl s rv K A n c ws _ l hP hL hT hK hc
 refine .inl ⟨hM.none t hUnit hAxis hRegion hCvt hFunc hClass hGlyph hContour hPart hAnchor hDelta hHint hChar hLookup hRule hFeature,?_⟩;simp only[stmt,hUnit,hAxis,hRegion,hCvt,hFunc,hClass,hGlyph,hContour,hPart,hAnchor,hDelta,hHint,hChar,hLookup,hRule,hFeature,if_false]
def dR (fs:Nat->Value)(j:Nat)(u:Value):Nat->Value:=fun i=>if i=j then u else fs i
theorem Io (fs:Nat->Value)(j:Nat)(u v:Value):dR (dR fs j u) j v=dR fs j v:=by
 funext i
 unfold dR;split<;>rfl
theorem eF (fs:Nat->Value)(j:Nat)(u:Value):dR fs j u j=u:=if_pos rfl
theorem aV {fs:Nat->Value}{j i:Nat}{u:Value}(h:i≠j):dR fs j u i=fs i:=if_neg h
section
variable {w w2:World} {m:Nat} {fs:Nat->Value} {lp:Int}
theorem Mk.put (h:Mk w m fs lp)(j:Nat)(hj:j<9)(u:Value):Mk (w.setCell ⟨m,j+2,none⟩ u) m (dR fs j u) lp:=by
 have:j=0\/j=1\/j=2\/j=3\/j=4\/j=5\/j=6\/j=7\/j=8:=by omega
 rcases this with rfl|rfl|rfl|rfl|rfl|rfl|rfl|rfl|rfl<;>exact h.set _ u (fun A n c a=>by simp[mkV,dR])
theorem Mk.loops (h:Mk w m fs lp)(l:Int):Mk (w.setCell ⟨m,11,none⟩ (.int .i64 l)) m fs l:=h.set _ _ (fun A n c a=>by simp[mkV])
theorem Mk.bk (h:Mk w m fs lp):∃cs,Bk w m mQ cs:=by obtain⟨A,n,c,a,zs,h1,-⟩:=h;exact⟨_,h1⟩
theorem Mk.sp (h:Mk w m fs lp)(j:Nat)(u:Value):Sp m mQ w (w.setCell ⟨m,j,none⟩ u):=by obtain⟨cs,hb⟩:=h.bk;exact Sp.set hb (af _) j u
theorem Mk.mvp (_h:Mk w m fs lp)(j:Nat)(u:Value):Mv m w (w.setCell ⟨m,j,none⟩ u):=aU (World.grownBy.refl _ _) (.inl rfl) u
theorem Mk.at' (h:Mk w m fs lp)(j:Nat)(hj:j<9){u:Value}(hu:fs j=u):w.cell? ⟨m,j+2,none⟩=some u:=by rw[h.cells.1 j hj,hu]
end
abbrev nM:TypeId:=72
abbrev Ky:List TypeId:=[dA,aQ,tRow,vP]
def YL (x:Int×Bool):List Value:=[.int .i64 x.1,.bool x.2,.slice none 0 0]
def uB (l:List (Int×Bool)):List Value:=l.flatMap YL
structure L1 (w:World)(m:Nat)(fs:Nat->Value)(lp:Int)(bs:List (Int×Bool))(A:Option Addr)(c:Nat)(ks:List Int)(Ac:Option Addr)(cc:Nat)(wr:World):Prop where
 mkr:Mk wr m (dR fs 3 (.slice A bs.length c)) lp
 row:wr.ownsRow w.heap.size nM 3 (.slice A bs.length c) bs.length (uB bs)
 cal:wr.ownsRow w.heap.size aQ 1 (.slice Ac ks.length cc) ks.length (aH ks)
 mv:Mv m w wr
section
variable {w wr w2:World} {m:Nat} {fs:Nat->Value} {lp:Int} {bs:List (Int×Bool)} {A:Option Addr} {c:Nat} {ks:List Int} {Ac:Option Addr} {cc:Nat}
theorem L1.next (h:L1 w m fs lp bs A c ks Ac cc wr)(hm:Mk w2 m (dR fs 3 (.slice A bs.length c)) lp)(hv:Mv m wr w2):L1 w m fs lp bs A c ks Ac cc w2:=by have s:=Sp.next h.mkr hv;exact⟨hm,s.own h.row (by decide),s.own h.cal (by decide),gu h.mv hv⟩
theorem L1.below (h:L1 w m fs lp bs A c ks Ac cc wr)(hb:Below wr.heap.size wr w2):L1 w m fs lp bs A c ks Ac cc w2:=by have s:Sp m mQ wr w2:=Sp.below hb;exact⟨h.mkr.below hb,s.own h.row (by decide),s.own h.cal (by decide),jS h.mv hb⟩
theorem L1.drew (h:L1 w m fs lp bs A c ks Ac cc wr):L1 w m fs lp bs A c ks Ac cc wr.drew:=h.below (ant _ _).drew
theorem L1.more (h:L1 w m fs lp bs A c ks Ac cc wr)(hmw:m<w.heap.size){n:Nat}(hn:bs.length=n)(hl:n<=1000)(k:Int)(b:Bool):
  ∃B d w9,(Builtin.append_ #[26,26] 26 #[.slice A n c,.slice (some ⟨wr.heap.size,0,none⟩) 1 1]).run Tryz.prog (wr.alloc (.cells #[.int .i64 k,.bool b,.slice none 0 0] nM))= .ok (.slice B (n+1) d) w9/\
   w9.cell? ⟨m,5,none⟩=some (.slice A n c)/\w9.frozen? ⟨m,5,none⟩=false/\m<w9.heap.size/\L1 w m fs lp (bs++[(k,b)]) B d ks Ac cc (w9.setCell ⟨m,5,none⟩ (.slice B (n+1) d)):=by
 subst hn;obtain⟨B,d,w9,hrun,aS,ax,bi⟩:=iJ Oo 26 wr w.heap.size _ c A _ #[.int .i64 k,.bool b,.slice none 0 0] rfl h.row (by simp[Value.oneCell']) (by omega) h.mv.size;have s:Sp m nM wr w9:=Sp.push h.row (by omega) ax;have pJ:=s.mk h.mkr (by decide);have hn:(bs++[(k,b)]).length=bs.length+1:=by simp
 have ho:w9.ownsRow w.heap.size nM 3 (.slice B (bs++[(k,b)]).length d) (bs++[(k,b)]).length (uB (bs++[(k,b)])):=by rw[hn];simpa [uB,YL] using aS
 have s2:=pJ.sp 5 (.slice B (bs.length+1) d);have PE:=pJ.put 3 (by omega) (.slice B (bs.length+1) d);rw[Io] at PE;refine⟨B,d,w9,hrun,pJ.at' 3 (by omega) (eF _ _ _),pJ.frozen 5,pJ.lt,by rw[hn];exact PE,s2.own ho (by decide),s2.own (s.own h.cal (by decide)) (by decide),gu (kK h.mv h.row (af _) ax) (pJ.mvp 5 _)⟩
theorem L1.call (h:L1 w m fs lp bs A c ks Ac cc wr)(hmw:m<w.heap.size){B:Option Addr}{d:Nat}{x:Int}(ho:w2.ownsRow w.heap.size aQ 1 (.slice B (ks.length+1) d) (ks.length+1) (aH ks++[.int .i64 x]))(hg:wr.grownBy w2 (Value.slice Ac ks.length cc).ownBlock):L1 w m fs lp bs A c (ks++[x]) B d w2:=by
 have s:Sp m aQ wr w2:=Sp.push h.cal (by omega) hg;have hn:(ks++[x]).length=ks.length+1:=by simp
 refine⟨s.mk h.mkr (by decide),s.own h.row (by decide),?_,kK h.mv h.cal (af _) hg⟩;rw[hn];simpa [aH,cI] using ho
end
structure L2 (w:World)(m:Nat)(fs:Nat->Value)(lp:Int)(n:Nat)(A:Option Addr)(c:Nat)(dc:List Value)(ls:List Lookup)(mid:List Value)(rest:List (Int×Bool))(ks:List Int)(Ac:Option Addr)(cc:Nat)(top:Nat)(wr:World):Prop where
 mkr:Mk wr m (dR fs 3 (.slice A n c)) lp
 row:wr.ownsRow w.heap.size nM 3 (.slice A n c) n (dc++(mid++uB rest))
 done:Fl akS 3 wr (TR Ky w.heap.size top wr) dc ls
 cal:wr.ownsRow w.heap.size aQ 1 (.slice Ac ks.length cc) ks.length (aH ks)
 mv:Mv m w wr
 top:w.heap.size<=top/\top<=wr.heap.size
section
variable {w wr w2:World} {m:Nat} {fs:Nat->Value} {lp:Int} {n:Nat} {A:Option Addr} {c:Nat} {dc:List Value} {ls:List Lookup} {mid:List Value} {rest:List (Int×Bool)} {ks:List Int} {Ac:Option Addr} {cc top:Nat}
theorem L1.two {bs:List (Int×Bool)}(h:L1 w m fs lp bs A c ks Ac cc wr):L2 w m fs lp bs.length A c [] [] [] bs ks Ac cc wr.heap.size wr:=⟨h.mkr,by simpa using h.row,Fl.nil,h.cal,h.mv,h.mv.size,af _⟩
theorem L2.next (h:L2 w m fs lp n A c dc ls mid rest ks Ac cc top wr)(hmw:m<w.heap.size)(hm:Mk w2 m (dR fs 3 (.slice A n c)) lp)(hv:Mv m wr w2):L2 w m fs lp n A c dc ls mid rest ks Ac cc top w2:=by have s:=Sp.next h.mkr hv;have hz:=hv.size;exact⟨hm,s.own h.row (by decide),h.done.moved akS.ok (TR.step hv (fun x hx=>by injection hx with hx;exact .inl (by omega))),s.own h.cal (by decide),gu h.mv hv,h.top.1,nt h.top.2 hz⟩
theorem L2.below (h:L2 w m fs lp n A c dc ls mid rest ks Ac cc top wr)(hb:Below wr.heap.size wr w2):L2 w m fs lp n A c dc ls mid rest ks Ac cc top w2:=by have s:Sp m mQ wr w2:=Sp.below hb;exact⟨h.mkr.below hb,s.own h.row (by decide),h.done.moved akS.ok (TR.step (aB hb none) (fun x hx=>by cases hx)),s.own h.cal (by decide),jS h.mv hb,h.top.1,nt h.top.2 hb.size⟩
theorem L2.drew (h:L2 w m fs lp n A c dc ls mid rest ks Ac cc top wr):L2 w m fs lp n A c dc ls mid rest ks Ac cc top wr.drew:=h.below (ant _ _).drew
theorem L2.calls (h:L2 w m fs lp n A c dc ls mid rest ks Ac cc top wr)(hk:∀x∈ks,I64 x):Sl akL 1 wr (TR [aQ] w.heap.size wr.heap.size wr) Ac ks:=yH h.cal (jP _ _ ks hk) (by simp) (af _) (by omega)
theorem L2.head {k:Int}{b:Bool}{r:List (Int×Bool)}(h:L2 w m fs lp n A c dc ls [] ((k,b)::r) ks Ac cc top wr):L2 w m fs lp n A c dc ls [.int .i64 k,.bool b,.slice none 0 0] r ks Ac cc top wr:=by refine⟨h.mkr,?_,h.done,h.cal,h.mv,h.top⟩;have:=h.row;simpa [uB,YL] using this
theorem L2.cells {k:Int}{b:Bool}{v:Value}(h:L2 w m fs lp n A c dc ls [.int .i64 k,.bool b,v] rest ks Ac cc top wr):∃g,A=some ⟨g,0,none⟩/\g<wr.heap.size/\wr.cell? ⟨g,ls.length*3,none⟩=some (.int .i64 k)/\wr.cell? ⟨g,ls.length*3+1,none⟩=some (.bool b)/\wr.cell? ⟨g,ls.length*3+2,none⟩=some v/\(∀j,wr.frozen? ⟨g,j,none⟩=false)/\ls.length<n/\w.heap.size<=g:=by
 have hr:=h.row;have hl:=hr.1;have hd:=h.done.1;simp only[la,aT,ln,hd] at hl;have hn:ls.length<n:=by omega
 obtain⟨g,rfl⟩:∃g,A=some ⟨g,0,none⟩:=by
  rcases hr.2 with⟨-,h2⟩|⟨g,cap,cur,h1,-⟩
  ·omega
  simp only[aon,true_and] at h1;exact⟨g,h1.1⟩
 have hlt:=hr.lt g rfl;have hat:∀j (u:Value),(dc++([.int .i64 k,.bool b,v]++uB rest))[j]? =some u->wr.cell? ⟨g,j,none⟩=some u:=fun j u hu=>by
  have:=hr.cells (g:=g) rfl j u hu
  rwa [addr_add,aoc] at this
 refine⟨g,rfl,hlt.2,hat _ _ ?_,hat _ _ ?_,hat _ _ ?_,fun j=>hr.frozenAt j,hn,hlt.1⟩
 ·rw[anR (by omega),hd,Nat.sub_self];rfl
 ·rw[anR (by omega),hd,show ls.length*3+1 - ls.length*3=1 by omega];rfl
 rw[anR (by omega),hd,show ls.length*3+2 - ls.length*3=2 by omega];rfl
theorem L2.at' {k:Int}{b:Bool}{v:Value}{g:Nat}(h:L2 w m fs lp n (some ⟨g,0,none⟩) c dc ls [.int .i64 k,.bool b,v] rest ks Ac cc top wr):wr.cell? ⟨g,ls.length*3,none⟩=some (.int .i64 k)/\wr.cell? ⟨g,ls.length*3+2,none⟩=some v/\g<wr.heap.size:=by
 obtain⟨g',hg',hgz,e0,-,e2,-,-,-⟩:=h.cells;have e:g'=g:=by simpa using hg'.symm
 subst e;exact⟨e0,e2,hgz⟩
theorem L2.skip {k:Int}{b:Bool}(h:L2 w m fs lp n A c dc ls [.int .i64 k,.bool b,.slice none 0 0] rest ks Ac cc top wr)(hk:I64 k):L2 w m fs lp n A c (dc++[.int .i64 k,.bool b,.slice none 0 0]) (ls++[⟨k,b,[]⟩]) [] rest ks Ac cc top wr:=by refine⟨h.mkr,?_,h.done.append (Fl.one ⟨none,0,rfl,hk,Sl.nil⟩ rfl),h.cal,h.mv,h.top⟩;have:=h.row;simpa using this
end
structure L3 (w:World)(m:Nat)(fs:Nat->Value)(lp:Int)(n:Nat)(A:Option Addr)(c:Nat)(dc:List Value)(ls:List Lookup)(k:Int)(b:Bool)(rs:List als)(Ar:Option Addr)(cr:Nat)(rc:List Value)(rest:List (Int×Bool))(ks:List Int)(Ac:Option Addr)(cc:Nat)(top hi:Nat)(wr:World):Prop where
 two:L2 w m fs lp n A c dc ls [.int .i64 k,.bool b,.slice Ar rs.length cr] rest ks Ac cc top wr
 al7:wr.ownsRow top dA 6 (.slice Ar rs.length cr) rs.length rc
 rfl':Fl ak3 6 wr (TR je top hi wr) rc rs
 hi':top<=hi/\hi<=wr.heap.size
section
variable {w wr w2:World} {m:Nat} {fs:Nat->Value} {lp:Int} {n:Nat} {A:Option Addr} {c:Nat} {dc:List Value} {ls:List Lookup} {k:Int} {b:Bool} {rs:List als} {Ar:Option Addr} {cr:Nat} {rc:List Value} {rest:List (Int×Bool)} {ks:List Int} {Ac:Option Addr} {cc top hi:Nat}
theorem L2.three (h:L2 w m fs lp n A c dc ls [.int .i64 k,.bool b,.slice none 0 0] rest ks Ac cc top wr):L3 w m fs lp n A c dc ls k b [] none 0 [] rest ks Ac cc wr.heap.size wr.heap.size wr:=⟨⟨h.mkr,h.row,h.done.mono akS.ok (TR.sub (fun _ h=>h) (af _) h.top.2),h.cal,h.mv,nt h.top.1 h.top.2,af _⟩,World.ownsRow_nil _ _ _ _,Fl.nil,af _,af _⟩
theorem L3.next (h:L3 w m fs lp n A c dc ls k b rs Ar cr rc rest ks Ac cc top hi wr)(hmw:m<w.heap.size)(hm:Mk w2 m (dR fs 3 (.slice A n c)) lp)(hv:Mv m wr w2):L3 w m fs lp n A c dc ls k b rs Ar cr rc rest ks Ac cc top hi w2:=by have s:=Sp.next h.two.mkr hv;have ht:=h.two.top;exact⟨h.two.next hmw hm hv,s.own h.al7 (by decide),h.rfl'.moved ak3.ok (TR.step hv (fun x hx=>by injection hx with hx;exact .inl (by omega))),h.hi'.1,nt h.hi'.2 hv.size⟩
theorem L3.drew (h:L3 w m fs lp n A c dc ls k b rs Ar cr rc rest ks Ac cc top hi wr):L3 w m fs lp n A c dc ls k b rs Ar cr rc rest ks Ac cc top hi wr.drew:=⟨h.two.drew,h.al7,h.rfl',h.hi'⟩
theorem L3.more (h:L3 w m fs lp n A c dc ls k b rs Ar cr rc rest ks Ac cc top hi wr)(hmw:m<w.heap.size){nr:Nat}(hnr:rs.length=nr)(hl:nr<=1000){g:Nat}(hA:A=some ⟨g,0,none⟩){lo:Nat}(hlo:top<=lo)(r:als){B0 B1 B2 B3 B4:Option Addr}{d0 d1 d2 d3 d4:Nat}(hx:I64 r.x)
  (s0:Sl akM 1 wr (TS je lo wr) B0 r.back) (s1:Sl akM 1 wr (TS je lo wr) B1 r.in') (s2:Sl akM 1 wr (TS je lo wr) B2 r.ahead) (s3:Sl akL 1 wr (TS je lo wr) B3 r.out) (s4:Sl alu 2 wr (TS je lo wr) B4 r.calls):
  ∃B d w9 rc',(Builtin.append_ #[70,70] 70 #[.slice Ar nr cr,.slice (some ⟨wr.heap.size,0,none⟩) 1 1]).run Tryz.prog (wr.alloc (.cells #[.slice B0 r.back.length d0,.slice B1 r.in'.length d1,.slice B2 r.ahead.length d2,.slice B3 r.out.length d3,.slice B4 r.calls.length d4,.int .i64 r.x] dA))= .ok (.slice B (nr+1) d) w9/\
   w9.cell? ⟨m,5,none⟩=some (.slice A n c)/\w9.cell? ⟨g,ls.length*3,none⟩=some (.int .i64 k)/\w9.cell? ⟨g,ls.length*3+2,none⟩=some (.slice Ar nr cr)/\w9.frozen? ⟨g,ls.length*3+2,none⟩=false/\g<w9.heap.size/\L3 w m fs lp n A c dc ls k b (rs++[r]) B d rc' rest ks Ac cc top wr.heap.size (w9.setCell ⟨g,ls.length*3+2,none⟩ (.slice B (nr+1) d)):=by
 subst hnr;have ht:=h.two.top;obtain⟨B,d,w9,hrun,aS,ax,bi⟩:=iJ Md 70 wr top _ cr Ar _ #[.slice B0 r.back.length d0,.slice B1 r.in'.length d1,.slice B2 r.ahead.length d2,.slice B3 r.out.length d3,.slice B4 r.calls.length d4,.int .i64 r.x] rfl h.al7 (by simp[Value.oneCell']) (by omega) ht.2;have s:Sp m dA wr w9:=Sp.push h.al7 (by omega) ax;have YB:=ax.size;have two9:L2 w m fs lp n A c dc ls [.int .i64 k,.bool b,.slice Ar rs.length cr] rest ks Ac cc top w9:=⟨s.mk h.two.mkr (by decide),s.own h.two.row (by decide),h.two.done.moved akS.ok (TR.step ax (fun x hx=> .inr (h.al7.lt x hx).1)),s.own h.two.cal (by decide),kK h.two.mv h.al7 (by omega) ax,ht.1,by omega⟩
 obtain⟨g',hg',hgl,e0,e1,e2,ef,hn,hgw⟩:=two9.cells;have eg:g=g':=by have:=hA.symm.trans hg';simpa using this
 subst eg;have hn2:(rs++[r]).length=rs.length+1:=by simp
 have one:Fl ak3 6 wr (TR je top wr.heap.size wr) [.slice B0 r.back.length d0,.slice B1 r.in'.length d1,.slice B2 r.ahead.length d2,.slice B3 r.out.length d3,.slice B4 r.calls.length d4,.int .i64 r.x] [r]:=Fl.one ⟨B0,d0,B1,d1,B2,d2,B3,d3,B4,d4,rfl,hx,s0.mono akM.ok (TR.amb hlo),s1.mono akM.ok (TR.amb hlo),s2.mono akM.ok (TR.amb hlo),s3.mono akL.ok (TR.amb hlo),s4.mono alu.ok (TR.amb hlo)⟩ rfl;have all:=(h.rfl'.mono ak3.ok (TR.sub (fun _ h=>h) (af _) h.hi'.2)).append one;have Y5:Fl ak3 6 w9 (TR je top wr.heap.size w9) _ (rs++[r]):=all.moved ak3.ok (by
  have key:∀b,TR je top wr.heap.size wr b->w9.heap[b]? =wr.heap[b]? :=fun b ⟨h1,cs,t,hk,htt⟩=>ax.block b hk.lt (fun e=>by
   obtain⟨cur,hb⟩:=iG h.al7 b e.symm;have:=(bU hb hk).1;subst this;exact absurd htt (by decide))
  exact⟨key,fun b hb=>by
   obtain⟨h1,cs,t,hk,htt⟩:=hb;exact⟨h1,cs,t,(key b ⟨h1,cs,t,hk,htt⟩).trans hk,htt⟩⟩)
 obtain⟨cs,hbk⟩:∃cs,Bk w9 g nM cs:=by obtain⟨cur,hk⟩:=iG two9.row g (by rw[hA];rfl);exact⟨_,hk⟩
 have s2':Sp m nM w9 (w9.setCell ⟨g,ls.length*3+2,none⟩ (.slice B (rs.length+1) d)):=Sp.set hbk (by omega) _ _;have hgr:w9.grownBy (w9.setCell ⟨g,ls.length*3+2,none⟩ (.slice B (rs.length+1) d)) (some g):=aU (World.grownBy.refl _ _) (.inl rfl) _;have hrow:=two9.row;rw[hA] at hrow;have hst:=(hrow.stored (ls.length*3+2) (.slice B (rs.length+1) d)).1;have hset:(dc++([Value.int .i64 k,.bool b,.slice Ar rs.length cr]++uB rest)).set (ls.length*3+2) (.slice B (rs.length+1) d)=dc++([Value.int .i64 k,.bool b,.slice B (rs.length+1) d]++uB rest):=by rw[List.set_append_right _ _ (by rw[two9.done.1];omega),two9.done.1,show ls.length*3+2 - ls.length*3=2 by omega];rfl
 have tl:∀(ts:List TypeId) (lo hi:Nat),nM ∉ ts->Same (TR ts lo hi w9) w9 (w9.setCell ⟨g,ls.length*3+2,none⟩ (.slice B (rs.length+1) d))/\∀b,TR ts lo hi w9 b->TR ts lo hi (w9.setCell ⟨g,ls.length*3+2,none⟩ (.slice B (rs.length+1) d)) b:=fun ts lo hi hts=>by
  have key:∀b,TR ts lo hi w9 b->(w9.setCell ⟨g,ls.length*3+2,none⟩ (.slice B (rs.length+1) d)).heap[b]? =w9.heap[b]? :=fun b' ⟨h1,cs',t,hk,htt⟩=>hgr.block b' hk.lt (fun e=>by
   injection e with e
   subst e;have:=(bU hbk hk).1;subst this;exact hts htt)
  exact⟨key,fun b' hb=>by
   obtain⟨h1,cs',t,hk,htt⟩:=hb;exact⟨h1,cs',t,(key b' ⟨h1,cs',t,hk,htt⟩).trans hk,htt⟩⟩
 refine⟨B,d,w9,_,hrun,two9.mkr.at' 3 (by omega) (eF _ _ _),e0,e2,ef _,hgl,⟨s2'.mk two9.mkr (by decide),?_,two9.done.moved akS.ok (tl Ky _ _ (by decide)),s2'.own two9.cal (by decide),uV two9.mv hgw _ _,ht.1,by simpa using two9.top.2⟩,?_,Y5.moved ak3.ok (tl je _ _ (by decide)),ht.2,by simpa using YB⟩
 ·rw[hset] at hst;rw[hn2,hA];exact hst
 rw[hn2];exact s2'.own aS (by decide)
theorem L3.fin (h:L3 w m fs lp n A c dc ls k b rs Ar cr rc rest ks Ac cc top hi wr)(hk:I64 k):L2 w m fs lp n A c (dc++[.int .i64 k,.bool b,.slice Ar rs.length cr]) (ls++[⟨k,b,rs⟩]) [] rest ks Ac cc wr.heap.size wr:=by have ht:=h.two.top;have sl:Sl ak3 6 wr (TR Ky w.heap.size wr.heap.size wr) Ar rs:=yH h.al7 (h.rfl'.mono ak3.ok (TR.sub (by decide) ht.1 h.hi'.2)) (by decide) ht.1 (by omega);refine⟨h.two.mkr,?_,(h.two.done.mono akS.ok (TR.sub (fun _ h=>h) (af _) ht.2)).append (Fl.one ⟨Ar,cr,rfl,hk,sl⟩ rfl),h.two.cal,h.two.mv,nt ht.1 ht.2,af _⟩;have:=h.two.row;simpa using this
end
theorem L2.fin {w wr:World}{m:Nat}{fs:Nat->Value}{lp:Int}{n:Nat}{A:Option Addr}{c:Nat}{dc:List Value}{ls:List Lookup}{ks:List Int}{Ac:Option Addr}{cc top:Nat}(h:L2 w m fs lp n A c dc ls [] [] ks Ac cc top wr):ls.length=n/\Sl akS 3 wr (TR (nM::Ky) w.heap.size wr.heap.size wr) A ls:=by
 have hl:=h.row.1;have hd:=h.done.1;simp only[an0,uB,aoe,la,ln,hd] at hl;have hn:ls.length=n:=by omega
 refine⟨hn,?_⟩;subst hn;have hr:=h.row;simp only[an0,uB,aoe] at hr;exact yH hr (h.done.mono akS.ok (TR.sub (by decide) (af _) h.top.2)) (by decide) (af _) (by omega)
end
section
attribute [-go_sem] storeVar
abbrev nJ:TypeId:=32
abbrev oP:Array Value:= #[.int .i64 0,.slice none 0 0,.slice none 0 0,.slice none 0 0,.slice none 0 0,.slice none 0 0,.slice none 0 0,.slice none 0 0,.slice none 0 0]
def PD (w:World)(r:Except (Int×Int) Fnt)(e:Ending)(w':World):Prop:=
 Below w.heap.size w w'/\match r with
  | .ok f=>∃fc:List Value,e= .returned (.tuple #[.agg fc.toArray,.int .i64 0,.int .i64 0])/\aln w' (Dt w') fc f
  | .error (n,c)=>e= .returned (.tuple #[.agg oP,.int .i64 n,.int .i64 c])
theorem IV:(Tryz.prog.info? nJ).map (·.size)=some 9:=by kernel_rfl
theorem Lh {fn:Func}{p u v:Tmp}{ty:TypeId}(h:fn.results= #[.cell p ty,.tmp u,.tmp v])(tmps:Array Value)(P:Program)(w:World):
  (results fn tmps).run P w=((asAddr (tmps.getD p undef)).run P w).andThen fun a w₁=>((loadVar ty a).run P w₁).andThen fun x w₂=> .ok (.tuple #[x,tmps.getD u undef,tmps.getD v undef]) w₂:=by
 simp only[results,h];simp[Sem.run_bind,Result.andThen]
theorem BZ {W:World}{g:Nat}{cs:Array Value}{v u:Value}{tmps:Array Value}(hb:Bk W g nJ cs)(hsz:cs.size=9)(h2:tmps.getD 2 undef= .pointer (some ⟨g,0,none⟩))(h3:tmps.getD 3 undef=v)(h4:tmps.getD 4 undef=u):(results Tryz.f19 tmps).run Tryz.prog W= .ok (.tuple #[.agg cs,v,u]) W:=by have:=run_loadVar_row (P:=Tryz.prog) W g nJ nJ cs (0,0) _ hb Tryz.underlying32 rfl (by rw[IV,hsz]);rw[Lh (fn:=Tryz.f19) (p:=2) (u:=3) (v:=4) (ty:=nJ) rfl,h2,h3,h4];simp[asAddr,Result.andThen,this]
theorem YM (w:World):(zeroValue 121).run Tryz.prog w= .ok Value.nilFunc w:=by kernel_rfl
theorem aeH (w:World):(Instr.makeMap 114 none).run Tryz.prog w= .ok (.map (some w.heap.size)) (w.alloc (.map #[] 0)):=by
 simp[Instr.makeMap,Result.andThen,newObj,go_sem]
 try rfl
structure FSt (w5:World)(Bd p gm cm:Nat)(gl:Gl)(L:List (Int×List B))(rows:List (List P3))(k:Nat)(s:PS)(rv:Rows)(wr:World):Prop where
 st:PSt wr Bd p gm cm gl s rv (tot (rows.take k))
 kq:KQ cm w5 wr
 low:Below Bd w5 wr
 ok:stmts gl ps0 (L.take k)= .ok s
theorem KQ.rows {cm:Nat}{w w':World}(h:KQ cm w w'){hs:List Value}{rows:List (List P3)}(hr:RowsIn dZ w hs rows):RowsIn dZ w' hs rows:=hr.kept fun _ _ _ hr=>h.rdT hr (by decide) (by decide)
theorem KQ.anq {κ :Type}{E:Emb κ}{cm:Nat}{w w':World}{b:Nat}{f: κ ->Option Value}(h:KQ cm w w')(hm:akW E w b f)(hne:b≠cm):akW E w' b f:=by obtain⟨es,clock,kv,h1,h2⟩:=hm;exact⟨es,clock,kv,h.same b _ h1 hne,h2⟩
theorem KQ.boxes {cm:Nat}{w w':World}(h:KQ cm w w'){t:TypeId}{p F a b:Nat}(hb:alb w t p F a b)(h1:lK t=false)(h2:t≠jy):alb w' t p F a b:=⟨h.bk hb.par (by decide) (by decide),h.bk hb.fn h1 h2⟩
theorem abg {w:World}{A:Option Addr}{n k:Nat}{hs:List Value}{rows:List (List P3)}(hr:RdT w 119 A n 1 hs)(hin:RowsIn dZ w hs rows)(hk:k<n):
  ∃b o r Ar kr cr,A=some ⟨b,o,none⟩/\Hid (rows[k]? =some r)/\b<w.heap.size/\w.cell? ⟨b,o+k,none⟩=some (.slice Ar kr cr)/\RdT w dZ Ar kr 3 (dD r)/\kr=r.length/\kr<=cr:=QF hr hin (ant _ _) hk
theorem amc.kq {cm:Nat}{w w':World}{p M:Nat}{f:B->Option Value}{jD jE pY qp kH kJ mM mX pX pU pW qf:Nat}(h:amc w p M f jD jE pY qp kH kJ mM mX pX pU pW qf)(k:KQ cm w w')(hne:M≠cm):amc w' p M f jD jE pY qp kH kJ mM mX pX pU pW qf:={h with map:=k.anq h.map hne,akV:=k.boxes h.akV (by decide) (by decide),alf:=k.boxes h.alf (by decide) (by decide),ak4:=k.boxes h.ak4 (by decide) (by decide),alk:=k.boxes h.alk (by decide) (by decide),alz:=k.boxes h.alz (by decide) (by decide),alU:=k.boxes h.alU (by decide) (by decide)}
theorem ali.low {w w':World}{Bd:Nat}(h:ali w)(hb:Below Bd w w')(hn:nT<=Bd):ali w':=by
 exact⟨h.ops.keep (hb.block _ (by
   have:0<nT:=by decide
   omega)),h.anch.keep (hb.block _ (by
     have:2<nT:=by decide
     omega)),h.kinds.keep (hb.block _ (by
       have:3<nT:=by decide
       omega))⟩
theorem Y3 {src:B}{k:Nat}{x:Wd}{q:List Wd}(h:(gB src)[k]? =some (x::q)):(linesT src)[k]? =some (x.1,x.2.2::q.map (·.2.2)):=by unfold linesT;rw[anX,h];rfl
theorem XI {src:B}{k:Nat}{no e:Int}{l:List B}{s:PS}(h:stmts (bf 0 ((linesT src).map (·.2))) ps0 ((linesT src).take k)= .ok s)(hk:(linesT src)[k]? =some (no,l))(he:stmt (bf 0 ((linesT src).map (·.2))) s l= .error e):nZ src= .error (no,e):=by unfold nZ;rw[WN h hk he];rfl
theorem TI {src:B}{s:PS}(h:stmts (bf 0 ((linesT src).map (·.2))) ps0 (linesT src)= .ok s):nZ src= .ok s.f:=by unfold nZ;rw[h];rfl
theorem Ue (src:B):(linesT src).map (·.2)=aO (gB src):=by unfold linesT aO;rw[aof];rfl
theorem Nr (w:World)(src:B)(hs:src.length<=100000000)(jH:ali w)(Bj:nT<=w.heap.size):Calls Tryz.prog 19 #[.string ⟨src.toArray⟩] w (PD w (nZ src)):=by
 have hmk:=fun w=>aeH w
 go_enter Tryz.func19,Tryz.ntmps19
 go_wp2_with fail
 refine(ZI _ src hs).mono ?_;rintro e w1 ⟨v,rfl,A,c,hs1,rfl,hrd,hri,hb1⟩;have hlm:∀r∈gB src,r.length<=100000000/\∀x∈r,x.2.2.length<=100000000:=PV src hs;have hR1:Bk w1 w.heap.size nJ oP:=(Bk.new w nJ oP).keep (hb1.block _ (by simp));have hT1:ali w1:=(jH.below ((ant _ _).alloc (af _) _)).below hb1;have hz1:w.heap.size+1<=w1.heap.size:=by have:=hb1.size;simpa using this
 have wV:Below w.heap.size w w1:=((ant w.heap.size w).alloc (af _) (.cells oP nJ)).trans (hb1.mono (by simp));have hfew:=Xm src;have htot:=YD src;have hgl:=Ls w1 A (gB src).length c (gB src) hs1 hrd hri (by omega) (Pn src) (fun r hr=>⟨by have:=(hlm r hr).1;omega,(hlm r hr).2⟩);rw[<-Ue] at hgl;have hgI:Hid (∀t n,(bf 0 ((linesT src).map (·.2))).lookup t=some n->n<=1000000000):=fun t n h=>by
  have h1:=Xb 0 _ t n h;have h2:=Sm ((linesT src).map (·.2));rw[Ue] at h2;unfold aO at h2;rw[anB] at h2;rw[Ue] at h1;unfold aO at h1;omega
 have HPB:Hid (∀(k:Nat) (no e:Int) (l:List B) (s:PS),stmts (bf 0 ((linesT src).map (·.2))) ps0 ((linesT src).take k)= .ok s->(linesT src)[k]? =some (no,l)->stmt (bf 0 ((linesT src).map (·.2))) s l= .error e->nZ src= .error (no,e)):=fun k no e l s h1 h2 h3=>XI h1 h2 h3
 have HPG:Hid (∀s,stmts (bf 0 ((linesT src).map (·.2))) ps0 (linesT src)= .ok s->nZ src= .ok s.f):=fun s h=>TI h
 have HLA:Hid (∀(k:Nat) (x:Wd) (q:List Wd),(gB src)[k]? =some (x::q)->(linesT src)[k]? =some (x.1,x.2.2::q.map (·.2.2))):=fun k x q h=>Y3 h
 have HNE:=hd0 (Pn src);have hlen2:Hid ((linesT src).length=(gB src).length):=by show _=_;unfold linesT;rw[anB]
 generalize bf 0 ((linesT src).map (·.2))=gl at*
 have HT1:=hd0 hT1;have HR1:=hd0 hR1;have HLW:=hd0 wV;have Hg:=hd0 hrd;have HRI:=hd0 hri;have HLM:=hd0 hlm;generalize linesT src=LT at*
 generalize gB src=LL at*
 generalize uk:nZ src=PA at*
 clear uk hT1 hR1 wV hrd hri hlm hb1 jH;go_wp2_with fail
 refine hgl.mono ?_;rintro e w2 ⟨gm,rfl,hgm,hgF,hb2⟩;have hz2:=hb2.size;have HGF:=hd0 hgF;have HB2:=hd0 hb2;clear hgl hgF hb2;go_wp2_with fail
 obtain⟨w4,hw4⟩:∃x,((w2.alloc (.map #[] 0)).alloc (.cells #[.int .i64 0,.slice none 0 0,.slice none 0 0,.slice none 0 0,.slice none 0 0,.slice none 0 0,.slice none 0 0,.slice none 0 0,.slice none 0 0,.bool false,.map (some gm),.map (some w2.heap.size)] jy))=x:=⟨_,rfl⟩
 rw[hw4];have aa8:Bk w4 (w2.heap.size+1) jy (dW ps0 GK gm w2.heap.size):=by
  have:=Bk.new (w2.alloc (.map #[] 0)) jy #[.int .i64 0,.slice none 0 0,.slice none 0 0,.slice none 0 0,.slice none 0 0,.slice none 0 0,.slice none 0 0,.slice none 0 0,.slice none 0 0,.bool false,.map (some gm),.map (some w2.heap.size)];have e:(w2.alloc (.map #[] 0)).heap.size=w2.heap.size+1:=by simp
  rw[hw4,e] at this;exact this
 have hb4:Below w2.heap.size w2 w4:=hw4 ▸ ((ant _ _).alloc (af _) _).alloc (by simp) _;have adU:akW mi w4 w2.heap.size (fun _=>none):=hw4 ▸ ((akW.new mi w2).below ((ant _ _).alloc (af _) _));have QO:w2.heap.size+2<=w4.heap.size:=by rw[<-hw4];simp
 clear hw4;have aiJ:=HGF.out.lt;have HP4:=hd0 (PSt.start (Bd:=w1.heap.size) aa8 (HGF.out.below hb4) adU hgI.out ⟨by omega,by omega,by omega,by omega⟩);have HB4:=hd0 hb4;clear aa8 hb4 adU hmk;refine(Lt w4 _).mono ?_;rintro e w6 ⟨M,f,jD,jE,pY,qp,kH,kJ,mM,mX,pX,pU,pW,qf,rfl,hM,adb,hb6⟩;have ahD:=hd0 adb;have HP6:=hd0 (HP4.out.below hb6);have h16:Below w1.heap.size w1 w6:=HB2.out.trans ((HB4.out.trans (hb6.mono (by omega))).mono hz2);have Vq:Hid (∀W,Below w1.heap.size w1 W->(storeVar nJ ⟨w.heap.size,0,none⟩ (.agg oP)).run Tryz.prog W.drew= .ok () W.drew/\∀tmps (no e:Int),PA= .error (no,e)->tmps.getD 2 undef= .pointer (some ⟨w.heap.size,0,none⟩)->tmps.getD 3 undef= .int .i64 no->tmps.getD 4 undef= .int .i64 e->bodyPost Tryz.prog Tryz.f19 (PD w PA) Exit.ret ⟨tmps,[]⟩ W.drew):=fun W hW=>by
  have hb:Bk W w.heap.size nJ oP:=HR1.out.keep (hW.block _ (by omega));refine⟨?_,fun tmps no e hp t2 t3 t4=> ?_⟩
  ·have h:=run_storeVar_row (P:=Tryz.prog) W.drew w.heap.size nJ nJ oP oP hb (by rw[IV];rfl) rfl (by simp[Value.oneCell']);rw[setRow_self W.drew w.heap.size oP nJ (0,0) hb] at h;exact h
  have hb2:Bk W.drew w.heap.size nJ oP:=hb;refine bodyPost_ret (BZ hb2 rfl t2 t3 t4) rfl ⟨(HLW.out.trans (hW.mono HLW.out.size)).drew,?_⟩;rw[hp]
 have hz6:=hb6.size;have hne:M≠w2.heap.size:=by omega
 have hzw:w.heap.size+1<=w6.heap.size:=by omega
 have H16:=hd0 h16;clear adb hb6 h16 HP4 HB4 HB2 HGF hgI;go_wp2_with fail
 go_loopw [24] (fun i wr=>∃k s rv,k<=LL.length/\i= .int .i64 (k:Nat)/\FSt w6 w1.heap.size (w2.heap.size+1) gm w2.heap.size gl LT LL k s rv wr) (fun i _=>LL.length - (intOf i).toNat)
 case atStart=>exact⟨0,ps0,GK,nz _,rfl,⟨by rw[List.take_zero];exact HP6.out,KQ.refl _ _,ant _ _,by rw[List.take_zero];rfl⟩⟩
 case round=>
  obtain⟨k,s,rv,hk,rfl,hst⟩:=hrel;have hbW:Below w1.heap.size w1 wr:=H16.out.trans hst.low;have J5:=hd0 hbW;have zR:w.heap.size<wr.heap.size:=by have:=hbW.size;omega
  obtain⟨Fh,-⟩:=Vq.out wr hbW;by_cases hlt:k<LL.length
  ·obtain⟨b,o,r,Ar,kr,cr,rfl,hp,Ji,q1w,Jp,hkr,hkc⟩:=abg Hg.out HRI.out hlt;have q1:wr.cell? ⟨b,o+k,none⟩=some (.slice Ar kr cr):=((aj hbW).1 _ _ Ji).trans q1w;have hbw:=anD Ji hbW.size;have hrd:=Jp.below hbW;have hrm:=anC hp.out;have hLn:alg wr Ar kr r:=⟨hrd,(HLM.out r hrm).2,by rw[hkr];have:=(HLM.out r hrm).1;omega⟩
   obtain⟨x,q,rfl⟩:∃x q,r=x::q:=by
    cases r with
    |nil=>exact absurd rfl (HNE.out _ hrm)
    |cons x q=>exact⟨x,q,rfl⟩
   have htx:ag (x::q)=x.2.2::q.map (·.2.2):=rfl;obtain⟨x1,x2,x3⟩:=x;have hkl:=HLA.out k _ q hp.out;simp only at hkl htx;obtain⟨htt,htn⟩:=aaw LL k _ hp.out;obtain⟨b1,o1,y1,y2,y3,rfl,hb1,hy,p0w,p1w,p2w⟩:=Jp.rd.at3 (k:=0) (by rw[hkr];simp);have hy1:y1=x1/\y2=x2/\y3=x3:=by have:=hy.out;simp only[anF,anV,aoj] at this;exact⟨this.1.symm,this.2.1.symm,this.2.2.symm⟩
   obtain⟨rfl,rfl,rfl⟩:=hy1;simp only[Nat.zero_mul,Nat.add_zero] at p0w p1w p2w;have p0:wr.cell? ⟨b1,o1,none⟩=some (.int .i64 y1):=((aj hbW).1 _ _ hb1).trans p0w;have p2:wr.cell? ⟨b1,o1+2,none⟩=some (.string ⟨y3.toArray⟩):=((aj hbW).1 _ _ hb1).trans p2w;have P0:Hid (∀W,Below w1.heap.size w1 W->W.cell? ⟨b1,o1,none⟩=some (.int .i64 y1)):=fun W hW=>((aj hW).1 _ _ hb1).trans p0w
   have Z1:Hid (∀W,Below w1.heap.size w1 W->b1<W.heap.size/\w.heap.size<W.heap.size):=fun W hW=>⟨anD hb1 hW.size,by have:=hW.size;omega⟩
   have hTk:=ahD.out.kq hst.kq hne;have hcall:=VI wr w1.heap.size (w2.heap.size+1) gm w2.heap.size gl s rv (tot (LL.take k)) _ kr cr _ y3 (q.map (·.2.2)) hTk hst.st hLn htx (by omega) hkc (HT1.out.below hbW) (by omega);have hlk:=hTk.map.al4 Tryz.underlying117 Tryz.underlying9 (YM wr) y3;have HST:=hd0 hst;have hk0:0<kr:=by rw[hkr];simp
   have CO:=hd0 hkl;have HKR:=hd0 (show kr=((y1,y2,y3)::q).length from hkr);rw[<-hkr] at htn;have HTN:=hd0 htn;clear hkr htn htt hst hrd Jp hLn hTk hp hy htx hrm hkl q1w p0w p1w p2w Ji hkc hbW;rcases hcall with⟨hf,he⟩|⟨F,hf,hE,hC⟩|⟨F,a,b',hf,hE,hC⟩
   ·rw[hf] at hlk;have hlk2:(Instr.lookup 117 (.map (some M)) (.string ⟨y3.toArray⟩) true).run Tryz.prog wr= .ok (.tuple #[Value.nilFunc,.bool false]) wr:=hlk;have HE:=hd0 (HPB.out k _ _ _ _ HST.out.ok CO.out he);have JJ:=hd0 (Vq.out wr J5.out).2;clear hlk hf he;go_wp2_with fail
    go_region
    all_goals
     go_wp2
     (try simp only[Exit.inBlock,Exit.then])
     exact JJ.out _ _ _ HE.out rfl rfl rfl
   ·skip
    rw[hf] at hlk;have hlk2:(Instr.lookup 117 (.map (some M)) (.string ⟨y3.toArray⟩) true).run Tryz.prog wr= .ok (.tuple #[.func (.func F) #[.pointer (some ⟨w2.heap.size+1,0,none⟩)] #[],.bool true]) wr:=hlk;cases hres:stmt gl s (y3::q.map (·.2.2)) with
    |error e9=>
     rw[hres] at hC;have HC:=hd0 hC;have HE:=hd0 (HPB.out k _ _ _ _ HST.out.ok CO.out hres);have he9:(e9 !=0)=true:=by simpa using QK _ _ _ _ hres
     clear hlk hf hC hres Fh;go_wp2_with fail
     refine HC.out.mono ?_;rintro e w7 ⟨hb7,rfl⟩;have zH:=J5.out.trans hb7;obtain⟨Fh,hfin⟩:=Vq.out w7 zH;have JJ:=hd0 hfin;have p07:=P0.out w7 zH;obtain⟨zb7,zR7⟩:=Z1.out w7 zH;clear hfin hb7 zH;go_wp2_with fail
     go_region
     all_goals
      go_wp2
      (try simp only[Exit.inBlock,Exit.then])
      exact JJ.out _ _ _ HE.out rfl rfl rfl
    |ok s'=>
     rw[hres] at hC;have HC:=hd0 hC;have HSN:Hid (stmts gl ps0 (LT.take (k+1))= .ok s'):=by show _=_;rw[zC HST.out.ok CO.out,hres]
     clear hlk hf hC hres Fh;go_wp2_with fail
     refine HC.out.mono ?_;rintro e w7 ⟨hb7,rfl,LZ,rv',XM⟩;have xU:Hid (FSt w6 w1.heap.size (w2.heap.size+1) gm w2.heap.size gl LT LL (k+1) s' rv' w7):=⟨by rw[HTN.out];exact XM,HST.out.kq.trans LZ,HST.out.low.trans hb7,HSN.out⟩
     clear hb7 LZ XM;go_wp2_with fail
     go_roundw
     case rel=>exact⟨k+1,s',rv',by omega,by simp,xU.out⟩
     case measure=>simp[intOf];omega
   skip
   rw[hf] at hlk;have hlk2:(Instr.lookup 117 (.map (some M)) (.string ⟨y3.toArray⟩) true).run Tryz.prog wr= .ok (.tuple #[.func (.func F) #[] #[.pointer (some ⟨a,0,none⟩),.pointer (some ⟨b',0,none⟩)],.bool true]) wr:=hlk;cases hres:stmt gl s (y3::q.map (·.2.2)) with
   |error e9=>
    rw[hres] at hC;have HC:=hd0 hC;have HE:=hd0 (HPB.out k _ _ _ _ HST.out.ok CO.out hres);have he9:(e9 !=0)=true:=by simpa using QK _ _ _ _ hres
    clear hlk hf hC hres Fh;go_wp2_with fail
    refine HC.out.mono ?_;rintro e w7 ⟨hb7,rfl⟩;have zH:=J5.out.trans hb7;obtain⟨Fh,hfin⟩:=Vq.out w7 zH;have JJ:=hd0 hfin;have p07:=P0.out w7 zH;obtain⟨zb7,zR7⟩:=Z1.out w7 zH;clear hfin hb7 zH;go_wp2_with fail
    go_region
    all_goals
     go_wp2
     (try simp only[Exit.inBlock,Exit.then])
     exact JJ.out _ _ _ HE.out rfl rfl rfl
   |ok s'=>
    rw[hres] at hC;have HC:=hd0 hC;have HSN:Hid (stmts gl ps0 (LT.take (k+1))= .ok s'):=by show _=_;rw[zC HST.out.ok CO.out,hres]
    clear hlk hf hC hres Fh;go_wp2_with fail
    refine HC.out.mono ?_;rintro e w7 ⟨hb7,rfl,LZ,rv',XM⟩;have xU:Hid (FSt w6 w1.heap.size (w2.heap.size+1) gm w2.heap.size gl LT LL (k+1) s' rv' w7):=⟨by rw[HTN.out];exact XM,HST.out.kq.trans LZ,HST.out.low.trans hb7,HSN.out⟩
    clear hb7 LZ XM;go_wp2_with fail
    go_roundw
    case rel=>exact⟨k+1,s',rv',by omega,by simp,xU.out⟩
    case measure=>simp[intOf];omega
  obtain rfl:k=LL.length:=by omega
  have hall:stmts gl ps0 LT= .ok s:=by
   have:=hst.ok
   rwa [anN (by rw[hlen2.out];exact af _)] at this
  have HPA:=hd0 (HPG.out s hall);have hR9:Bk wr w.heap.size nJ oP:=HR1.out.keep (hbW.block _ (by omega));have hdone:=hst.st.done;obtain⟨A1,c1,A2,c2,A3,c3,A4,c4,A5,c5,A6,c6,A7,c7,A8,c8,ee,d0,d1,d2,d3,d4,d5,d6,d7,d8⟩:=hst.st.done;have uk:=hst.st.par;have HDN:Hid (aln wr (Dt wr) [.int .i64 s.f.unit,.slice A1 s.f.akJ.length c1,.slice A2 s.f.chars.length c2,.slice A3 s.f.akK.length c3,.slice A4 s.f.features.length c4,.slice A5 s.f.akP.length c5,.slice A6 s.f.regions.length c6,.slice A7 s.f.funcs.length c7,.slice A8 s.f.cvt.length c8] s.f):=by show aln _ _ _ _;rw[<-ee];exact hdone
  simp only[aol,and_true,true_and] at ee;obtain⟨e1,e2,e3,e4,e5,e6,e7,e8⟩:=ee;have m0:=uk.cell 0;have m1:=uk.cell 1;have m2:=uk.cell 2;have m3:=uk.cell 3;have m4:=uk.cell 4;have m5:=uk.cell 5;have m6:=uk.cell 6;have m7:=uk.cell 7;have m8:=uk.cell 8;simp only[dW,List.getElem?_toArray,anI,anF] at m0 m1 m2 m3 m4 m5 m6 m7 m8;rw[e1] at m1;rw[e2] at m2;rw[e3] at m3;rw[e4] at m4;rw[e5] at m5;rw[e6] at m6;rw[e7] at m7;rw[e8] at m8;have aiM:=run_storeVar_row (P:=Tryz.prog) wr w.heap.size nJ nJ oP #[.int .i64 s.f.unit,.slice A1 s.f.akJ.length c1,.slice A2 s.f.chars.length c2,.slice A3 s.f.akK.length c3,.slice A4 s.f.features.length c4,.slice A5 s.f.akP.length c5,.slice A6 s.f.regions.length c6,.slice A7 s.f.funcs.length c7,.slice A8 s.f.cvt.length c8] hR9 (by rw[IV];rfl) rfl (by simp[Value.oneCell']);have iI:=hd0 hR9;have HLr:Hid (Below w.heap.size w wr):=HLW.out.trans (hbW.mono (by omega));have zp:=uk.lt;clear hst hall hR9 hdone d0 d1 d2 d3 d4 d5 d6 d7 d8 uk e1 e2 e3 e4 e5 e6 e7 e8 Fh hbW;go_wp2_with fail
  (try simp only[Exit.inBlock,Exit.then])
  refine bodyPost_ret (BZ (setRow_heap wr w.heap.size oP _ nJ (0,0) iI.out) rfl rfl rfl rfl) rfl ⟨below_setRow HLr.out (af _) _,?_⟩;rw[HPA.out];refine⟨_,rfl,?_⟩;have hsame:Same (Dt wr) wr (wr.setRow w.heap.size #[.int .i64 s.f.unit,.slice A1 s.f.akJ.length c1,.slice A2 s.f.chars.length c2,.slice A3 s.f.akK.length c3,.slice A4 s.f.features.length c4,.slice A5 s.f.akP.length c5,.slice A6 s.f.regions.length c6,.slice A7 s.f.funcs.length c7,.slice A8 s.f.cvt.length c8]):=fun g ⟨cs,t,hk,hd⟩=>setRow_other _ _ _ _ (fun e=>by
   subst e;rw[(bU hk iI.out).1] at hd
   revert hd
   decide)
  exact aln.ok.mono (aln.ok.keep HDN.out hsame) (fun g ⟨cs,t,hk,hd⟩=>⟨cs,t,(hsame g ⟨cs,t,hk,hd⟩).trans hk,hd⟩)
end
end Go.Proofs.YtkijckccfookeaaGreatDoor
