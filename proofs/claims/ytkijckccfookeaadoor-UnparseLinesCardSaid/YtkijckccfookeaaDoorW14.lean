/- Lemmas. -/
import Derived.Test.YtkijckccfookeaaDoorW13
import Derived.Test.YtkijckccfookeaaDoorMkPiece
set_option linter.unusedVariables false
set_option linter.unusedSimpArgs false
set_option maxRecDepth 100000
set_option maxHeartbeats 32000000
namespace Go.Proofs.YtkijckccfookeaaDoor
section
open Go.RowKit Go.Shelf
attribute [local go_sem] Oper.semAt_some
theorem MN:(Tryd.prog.info? 146).map (fun i=>(i.zero,i.size,i.bytes))=some (some (.agg #[.int .i64 0,.int .i64 0,.bool false]),3,24):=by kernel_rfl
theorem info3:(Tryd.prog.info? 3).map (fun i=>(i.zero,i.size,i.bytes))=some (some (.int .i64 0),1,8):=by kernel_rfl
theorem IJ (w:World)(a:Option Addr)(n c:Nat):(binOp .eql 49 (.slice a n c) (.slice none 0 0)).run Tryd.prog w= .ok (.bool a.isNone) w:=Lib.run_eql_slice_nil w _ _ a n c 0 0 Tryd.underlying49
theorem IR (w:World)(a:Option Addr)(n c:Nat):(binOp .eql 22 (.slice a n c) (.slice none 0 0)).run Tryd.prog w= .ok (.bool a.isNone) w:=Lib.run_eql_slice_nil w _ _ a n c 0 0 Tryd.underlying22
theorem En (w:World)(B:Nat)(A:Option Addr)(n c:Nat)(cs:List Value)(h1c:∀u∈cs,u.oneCell'=true)(hA:Rd w B A n 3 cs)(hB:B<=w.heap.size)(hn:n*24<=140737488355328):
  Calls Tryd.prog 67 #[.slice A n c] w fun e w'=>∃v,e= .returned v/\w'.ownsRow w.heap.size 146 3 v n cs/\Below w.heap.size w w':=by
 obtain⟨i0,hi0,hz0,hz1,hz2⟩:=info_parts MN;have hnil:=IJ;rcases A with _|ad
 ·have h0:n=0:=by
   rcases Nat.eq_zero_or_pos n with h|h
   ·exact h
   obtain⟨b,o,e,_⟩:=hA.2 h;cases e
  have hc:cs=[]:=List.eq_nil_of_length_eq_zero (by rw[hA.1,h0]);have H:=hd0 h0;have Hc:=hd0 hc;clear h0 hc;go_enter Tryd.func67,Tryd.ntmps67
  go_wp2;go_ret
  refine⟨.slice none 0 0,rfl,?_,aa0 _ _⟩;rw[H.out,Hc.out];exact World.ownsRow_nil _ _ _ _
 go_enter Tryd.func67,Tryd.ntmps67
 go_wp2_with (at_builtin;refine fK _ rfl (.tmp 5) (.tmp 6) 49 rfl w.heap.size 146 i0 _ 3 24 Tryd.underlying49 hi0 hz0 hz1 hz2 rfl (by decide) (.slice (some ⟨w.heap.size,0,none⟩) 0 0) 0 [] rfl (World.ownsRow_made w #[] 0 (ag _) (by simp[maxLen]) rfl) B (some ad) n c cs rfl (hA.alloc hB _) (h1c) (by simp only[maxLen];omega) (by omega) (by simp) ?_;intro v1 w1 hown1 hg1 hat1)
 go_ret
 refine⟨v1,rfl,by simpa using hown1,((aa0 _ _).alloc (ag _) _).grown hg1 (by simp) (by simp[Value.ownBlock])⟩
theorem MM (w:World)(B:Nat)(A:Option Addr)(n c:Nat)(ps:List Int)(hA:Rd w B A n 1 (aI ps))(hB:B<=w.heap.size)(hn:n*8<=140737488355328):
  Calls Tryd.prog 68 #[.slice A n c] w fun e w'=>∃v,e= .returned v/\w'.ownsRow w.heap.size 3 1 v n (aI ps)/\Below w.heap.size w w':=by
 obtain⟨i0,hi0,hz0,hz1,hz2⟩:=info_parts info3;have hnil:=IR;rcases A with _|ad
 ·have h0:n=0:=by
   rcases Nat.eq_zero_or_pos n with h|h
   ·exact h
   obtain⟨b,o,e,_⟩:=hA.2 h;cases e
  have hc:aI ps=[]:=List.eq_nil_of_length_eq_zero (by rw[hA.1,h0]);have H:=hd0 h0;have Hc:=hd0 hc;clear h0 hc;go_enter Tryd.func68,Tryd.ntmps68
  go_wp2;go_ret
  refine⟨.slice none 0 0,rfl,?_,aa0 _ _⟩;rw[H.out,Hc.out];exact World.ownsRow_nil _ _ _ _
 go_enter Tryd.func68,Tryd.ntmps68
 go_wp2_with (at_builtin;refine fK _ rfl (.tmp 5) (.tmp 6) 22 rfl w.heap.size 3 i0 _ 1 8 Tryd.underlying22 hi0 hz0 hz1 hz2 rfl (by decide) (.slice (some ⟨w.heap.size,0,none⟩) 0 0) 0 [] rfl (World.ownsRow_made w #[] 0 (ag _) (by simp[maxLen]) rfl) B (some ad) n c (aI ps) rfl (hA.alloc hB _) (Uu ps) (by simp only[maxLen];omega) (by omega) (by simp) ?_;intro v1 w1 hown1 hg1 hat1)
 go_ret
 refine⟨v1,rfl,by simpa using hown1,((aa0 _ _).alloc (ag _) _).grown hg1 (by simp) (by simp[Value.ownBlock])⟩
def iw (len:Nat):Nat->Nat->List Int->List (Nat×Nat×Nat)
 |_,_,[]=>[]
 |k,f,e::es=>if(f:Int)<=e/\e<(len:Int) then(k,f,e.toNat)::iw len (k+1) (e.toNat+1) es else []
theorem zt (A E:Option Addr)(n c m d:Nat)(w:World):Calls Tryd.prog 70 #[.slice A n c,.slice E m d] w fun x w'=>x= .returned (.func (.func 92) #[] #[.pointer (some ⟨w.heap.size+1,0,none⟩),.pointer (some ⟨w.heap.size,0,none⟩)])/\
  w'=(w.alloc (.cells #[.slice A n c] 49)).alloc (.cells #[.slice E m d] 22):=by
 go_enter Tryd.func70,Tryd.ntmps70
 go_wp2;go_ret
 exact⟨by simp,rfl⟩
theorem aS {w:World}(o:Obj){p:Addr}{v:Value}(h:w.cell? p=some v):(w.alloc o).cell? p=some v:=ae ((aa0 _ _).alloc (ag _) o) h
theorem bk1 (w:World)(v:Value)(t:TypeId):Bk (w.alloc (.cells #[v] t)) w.heap.size t #[v]:=heap_alloc_new w _
theorem bk2 (w:World)(o:Obj)(v:Value)(t:TypeId):Bk ((w.alloc o).alloc (.cells #[v] t)) (w.heap.size+1) t #[v]:=by
 have h:=bk1 (w.alloc o) v t
 rwa [World.size_alloc] at h
theorem Bk.below {w w':World}{g:Nat}{t:TypeId}{cs:Array Value}(h:Bk w g t cs)(hb:Below w.heap.size w w'):Bk w' g t cs:=(hb.block g h.lt).trans h
def vG (w:World)(n m:Nat)(cs:List Value)(es:List Int)(e:Ending)(w':World):Prop:=∃v u pb eb,e= .returned (.func (.func 69) #[] #[.pointer (some ⟨pb,0,none⟩),.pointer (some ⟨eb,0,none⟩)])/\w'.ownsRow w.heap.size 146 3 v n cs/\w'.ownsRow w.heap.size 3 1 u m (aI es)/\Bk w' pb 49 #[v]/\Bk w' eb 22 #[u]/\w.heap.size<=pb/\w.heap.size<=eb/\Below w.heap.size w w'
theorem dm {w:World}{base:Nat}{e t:TypeId}{s:Nat}{v:Value}{n:Nat}{xs:List Value}(h:w.ownsRow base e s v n xs){g:Nat}{cs:Array Value}(hb:Bk w g t cs)(hne:e≠t)(i:Nat)(u:Value):(w.setCell ⟨g,i,none⟩ u).ownsRow base e s v n xs:=by
 refine h.kept (row:=some g) (aV (p:=⟨g,i,none⟩) (World.grownBy.refl _ _) (.inl rfl) _) (.inr (fun e'=> ?_));obtain⟨cur,hk⟩:=dh h g e';have h1:w.heap[g]? =_:=hb;have h2:w.heap[g]? =_:=hk;rw[h1] at h2;injection h2 with h3
 injection h3 with _ h4
 exact hne h4.symm
section
variable {w w2:World} {n m b1 b2:Nat} {cs:List Value} {es:List Int} {v u:Value} (hb:Below w.heap.size w w2) (h1:w2.ownsRow b1 146 3 v n cs) (h2:w2.ownsRow b2 3 1 u m (aI es)) (hb1:w.heap.size<=b1) (hb2:w.heap.size<=b2)
include hb h1 h2 hb1 hb2
theorem NU:vG w n m cs es (.returned (.func (.func 69) #[] #[.pointer (some ⟨w2.heap.size,0,none⟩),.pointer (some ⟨w2.heap.size+1,0,none⟩)])) ((w2.alloc (.cells #[v] 49)).alloc (.cells #[u] 22)):=⟨v,u,_,_,rfl,ownsRow_base ((h1.alloc _).alloc _) hb1,ownsRow_base ((h2.alloc _).alloc _) hb2,(bk1 _ _ _).alloc _,bk2 _ _ _ _,hb.size,Nat.le_succ_of_le hb.size,(hb.alloc hb.size _).alloc (by have:=hb.size;simp;omega) _⟩
theorem Qp:vG w n m cs es (.returned (.func (.func 69) #[] #[.pointer (some ⟨w2.heap.size+1,0,none⟩),.pointer (some ⟨w2.heap.size,0,none⟩)])) ((w2.alloc (.cells #[u] 22)).alloc (.cells #[v] 49)):=⟨v,u,_,_,rfl,ownsRow_base ((h1.alloc _).alloc _) hb1,ownsRow_base ((h2.alloc _).alloc _) hb2,bk2 _ _ _ _,(bk1 _ _ _).alloc _,Nat.le_succ_of_le hb.size,hb.size,(hb.alloc hb.size _).alloc (by have:=hb.size;simp;omega) _⟩
theorem EO {g:Nat}{z:Value}(hg:Bk w2 g 49 #[z])(hgw:w.heap.size<=g):vG w n m cs es (.returned (.func (.func 69) #[] #[.pointer (some ⟨g,0,none⟩),.pointer (some ⟨w2.heap.size,0,none⟩)])) ((w2.setCell ⟨g,0,none⟩ v).alloc (.cells #[u] 22)):=by
 have hs:(w2.setCell ⟨g,0,none⟩ v).heap.size=w2.heap.size:=by simp
 have hk:=bk1 (w2.setCell ⟨g,0,none⟩ v) u 22;rw[hs] at hk;exact⟨v,u,_,_,rfl,ownsRow_base ((dm h1 hg (by decide) 0 v).alloc _) hb1,ownsRow_base ((dm h2 hg (by decide) 0 v).alloc _) hb2,(hg.set 0 v).alloc _,hk,hgw,hb.size,(hb.setCell hgw _).alloc (by rw[hs];exact hb.size) _⟩
theorem FX {g:Nat}{z:Value}(hg:Bk w2 g 22 #[z])(hgw:w.heap.size<=g):vG w n m cs es (.returned (.func (.func 69) #[] #[.pointer (some ⟨w2.heap.size,0,none⟩),.pointer (some ⟨g,0,none⟩)])) ((w2.setCell ⟨g,0,none⟩ u).alloc (.cells #[v] 49)):=by
 have hs:(w2.setCell ⟨g,0,none⟩ u).heap.size=w2.heap.size:=by simp
 have hk:=bk1 (w2.setCell ⟨g,0,none⟩ u) v 49;rw[hs] at hk;exact⟨v,u,_,_,rfl,ownsRow_base ((dm h1 hg (by decide) 0 u).alloc _) hb1,ownsRow_base ((dm h2 hg (by decide) 0 u).alloc _) hb2,hk,(hg.set 0 u).alloc _,hb.size,hgw,(hb.setCell hgw _).alloc (by rw[hs];exact hb.size) _⟩
theorem qG {g h:Nat}{z z':Value}(hg:Bk w2 g 49 #[z])(hh:Bk w2 h 22 #[z'])(hgw:w.heap.size<=g)(Ju:w.heap.size<=h):vG w n m cs es (.returned (.func (.func 69) #[] #[.pointer (some ⟨g,0,none⟩),.pointer (some ⟨h,0,none⟩)])) ((w2.setCell ⟨g,0,none⟩ v).setCell ⟨h,0,none⟩ u):=by
 have hne:g≠h:=by
  rintro rfl;have a1:w2.heap[g]? =_:=hg;have a2:w2.heap[g]? =_:=hh;rw[a1] at a2;injection a2 with a3
  injection a3 with _ a4
  exact absurd a4 (by decide)
 have hh2:=hh.far (p:=⟨g,0,none⟩) hne.symm v;exact⟨v,u,_,_,rfl,ownsRow_base (dm (dm h1 hg (by decide) 0 v) hh2 (by decide) 0 u) hb1,ownsRow_base (dm (dm h2 hg (by decide) 0 v) hh2 (by decide) 0 u) hb2,(hg.set 0 v).far (p:=⟨h,0,none⟩) hne u,hh2.set 0 u,hgw,Ju,(hb.setCell hgw _).setCell Ju _⟩
end
theorem xH (w:World)(B:Nat)(A E:Option Addr)(n c m d:Nat)(cs:List Value)(h1c:∀u∈cs,u.oneCell'=true)(es:List Int)(hA:Rd w B A n 3 cs)(hE:Rd w B E m 1 (aI es))(hB:B<=w.heap.size)(hn:n*24<=140737488355328)(hm:m*8<=140737488355328):
  Calls Tryd.prog 45 #[.agg #[.slice A n c,.slice E m d]] w (vG w n m cs es):=by
 go_enter Tryd.func45,Tryd.ntmps45
 go_wp2_with fail
 obtain⟨W,hW⟩:∃W,w.alloc (.cells #[.slice A n c,.slice E m d] 51)=W:=⟨_,rfl⟩
 have k0:W.cell? ⟨w.heap.size,0,none⟩=some (.slice A n c):=by rw[<-hW];simp[go_sem]
 have k1:W.cell? ⟨w.heap.size,1,none⟩=some (.slice E m d):=by rw[<-hW];simp[go_sem]
 have bw:Below w.heap.size w W:=by rw[<-hW];exact(aa0 _ _).alloc (ag _) _
 have hs:w.heap.size<W.heap.size:=by rw[<-hW];simp
 rw[hW];clear hW;have hA1:=hA.below bw hB;have hE1:=hE.below bw hB;have hBW:B<=W.heap.size:=by omega
 have Y8:¬(W.heap.size=w.heap.size):=by omega
 have Ym:¬(W.heap.size+1=w.heap.size):=by omega
 have Yt:¬(w.heap.size=W.heap.size):=by omega
 have X7:¬(w.heap.size=W.heap.size+1):=by omega
 go_region_held3 (fun w'=>w'.cell? ⟨w.heap.size,0,none⟩=some (.slice A n c)/\w'.cell? ⟨w.heap.size,1,none⟩=some (.slice E m d))
  (first|go_keep)
  (first
   |(go_at_call 67;refine(En _ B A n c cs h1c (by first|exact hA1.drew|exact(hA1.alloc (by omega) _).drew|exact((hA1.alloc (by omega) _).alloc (by simp;omega) _).drew) (by first|omega|(simp;omega)) hn).mono ?_;rintro e w1 ⟨v,rfl,hown,IM⟩;have hb1:=dW IM;(have hs1:W.heap.size<=w1.heap.size:=nt (by first|exact ag _|(simp;omega)|simp) hb1.size);(have Py:Below w.heap.size w w1:=by first|exact bw.trans (hb1.mono (by omega))|exact(bw.alloc (by omega) _).trans (hb1.mono (by simp;omega))|exact((bw.alloc (by omega) _).alloc (by simp;omega) _).trans (hb1.mono (by simp;omega)));(have hs1':w.heap.size<w1.heap.size:=aa9 hs hs1);(have hn1:¬(w1.heap.size=w.heap.size):=(by omega));(have hn2:¬(w1.heap.size+1=w.heap.size):=(by omega));(have hn3:¬(w.heap.size=w1.heap.size):=(by omega));(have hn4:¬(w.heap.size=w1.heap.size+1):=(by omega));(first|(have y0:=((bk1 W (.slice none 0 0) _).alloc _).below hb1;have y1:=(bk2 W _ (.slice none 0 0) _).below hb1;have q0:=ae hb1 (aS _ (aS _ k0));have q1:=ae hb1 (aS _ (aS _ k1));have hE2:=((hE1.alloc hBW _).alloc (by simp;omega) _).below hb1 (by simp;omega);have Xb:=y0.lt;have XL:w1.cell? ⟨W.heap.size,0,none⟩=some (.slice none 0 0):=y0.cell 0;have XK:w1.frozen? ⟨W.heap.size,0,none⟩=false:=y0.frozen 0;have Za:=y1.lt;have Y7:w1.cell? ⟨W.heap.size+1,0,none⟩=some (.slice none 0 0):=y1.cell 0;have Zm:w1.frozen? ⟨W.heap.size+1,0,none⟩=false:=y1.frozen 0)|(have y0:=(bk1 W (.slice none 0 0) _).below hb1;have q0:=ae hb1 (aS _ k0);have q1:=ae hb1 (aS _ k1);have hE2:=(hE1.alloc hBW _).below hb1 (by simp;omega);have Xb:=y0.lt;have XL:w1.cell? ⟨W.heap.size,0,none⟩=some (.slice none 0 0):=y0.cell 0;have XK:w1.frozen? ⟨W.heap.size,0,none⟩=false:=y0.frozen 0)|(have q0:=ae hb1 k0;have q1:=ae hb1 k1;have hE2:=hE1.below hb1 hBW));obtain⟨A1,c1,rfl,-⟩:=Rd.ZX hown)
   |(go_at_call 68;refine(MM _ B E m d es (by first|exact hE2|exact hE2.alloc (by omega) _|exact(hE2.alloc (by omega) _).alloc (by simp;omega) _) (by first|omega|(simp;omega)) hm).mono ?_;rintro e w2 ⟨u,rfl,iI,hb2⟩;(have hs2:w1.heap.size<=w2.heap.size:=nt (by first|exact ag _|(simp;omega)|simp) hb2.size);(have oL:Below w.heap.size w w2:=by first|exact Py.trans (hb2.mono (by omega))|exact(Py.alloc (by omega) _).trans (hb2.mono (by simp;omega))|exact((Py.alloc (by omega) _).alloc (by simp;omega) _).trans (hb2.mono (by simp;omega)));(have hs2':w.heap.size<w2.heap.size:=aa9 hs1' hs2);(have hm1:¬(w2.heap.size=w.heap.size):=(by omega));(have hm2:¬(w2.heap.size+1=w.heap.size):=(by omega));(have aF:¬(w.heap.size=w2.heap.size):=(by omega));(have hm4:¬(w.heap.size=w2.heap.size+1):=(by omega));(first|(have x0:=((bk1 w1 (.slice none 0 0) _).alloc _).below hb2;have x1:=(bk2 w1 _ (.slice none 0 0) _).below hb2;have hown2:=own_below ((hown.alloc _).alloc _) hb2;have r0:=ae hb2 (aS _ (aS _ q0));have r1:=ae hb2 (aS _ (aS _ q1));have RN:=x0.lt;have Tc:w2.cell? ⟨w1.heap.size,0,none⟩=some (.slice none 0 0):=x0.cell 0;have TV:w2.frozen? ⟨w1.heap.size,0,none⟩=false:=x0.frozen 0;have Y6:=x1.lt;have Y3:w2.cell? ⟨w1.heap.size+1,0,none⟩=some (.slice none 0 0):=x1.cell 0;have YR:w2.frozen? ⟨w1.heap.size+1,0,none⟩=false:=x1.frozen 0)|(have x0:=(bk1 w1 (.slice none 0 0) _).below hb2;have hown2:=own_below (hown.alloc _) hb2;have r0:=ae hb2 (aS _ q0);have r1:=ae hb2 (aS _ q1);have x2:=(y0.alloc _).below hb2;have RN:=x0.lt;have Tc:w2.cell? ⟨w1.heap.size,0,none⟩=some (.slice none 0 0):=x0.cell 0;have TV:w2.frozen? ⟨w1.heap.size,0,none⟩=false:=x0.frozen 0;have TE:=x2.lt;have TK:w2.cell? ⟨W.heap.size,0,none⟩=some (.slice none 0 0):=x2.cell 0;have Ry:w2.frozen? ⟨W.heap.size,0,none⟩=false:=x2.frozen 0)|(have x0:=(bk1 w1 (.slice none 0 0) _).below hb2;have hown2:=own_below (hown.alloc _) hb2;have r0:=ae hb2 (aS _ q0);have r1:=ae hb2 (aS _ q1);have RN:=x0.lt;have Tc:w2.cell? ⟨w1.heap.size,0,none⟩=some (.slice none 0 0):=x0.cell 0;have TV:w2.frozen? ⟨w1.heap.size,0,none⟩=false:=x0.frozen 0)|(have hown2:=own_below hown hb2;have r0:=ae hb2 q0;have r1:=ae hb2 q1;have x2:=y0.below hb2;have x3:=y1.below hb2;have TE:=x2.lt;have TK:w2.cell? ⟨W.heap.size,0,none⟩=some (.slice none 0 0):=x2.cell 0;have Ry:w2.frozen? ⟨W.heap.size,0,none⟩=false:=x2.frozen 0;have YF:=x3.lt;have YO:w2.cell? ⟨W.heap.size+1,0,none⟩=some (.slice none 0 0):=x3.cell 0;have Zj:w2.frozen? ⟨W.heap.size+1,0,none⟩=false:=x3.frozen 0)|(have hown2:=own_below hown hb2;have r0:=ae hb2 q0;have r1:=ae hb2 q1;have x2:=y0.below hb2;have TE:=x2.lt;have TK:w2.cell? ⟨W.heap.size,0,none⟩=some (.slice none 0 0):=x2.cell 0;have Ry:w2.frozen? ⟨W.heap.size,0,none⟩=false:=x2.frozen 0)|(have hown2:=own_below hown hb2;have r0:=ae hb2 q0;have r1:=ae hb2 q1));obtain⟨E1,d1,rfl,-⟩:=Rd.ZX iI))
 all_goals
  go_wp2_with fail
  go_ret
  first
   |exact NU oL hown2 iI (by first|omega|(simp;omega)) (by first|omega|(simp;omega))
   |exact Qp oL hown2 iI (by first|omega|(simp;omega)) (by first|omega|(simp;omega))
   |exact EO oL hown2 iI (by first|omega|(simp;omega)) (by first|omega|(simp;omega)) x0 (by omega)
   |exact EO oL hown2 iI (by first|omega|(simp;omega)) (by first|omega|(simp;omega)) x2 (by omega)
   |exact FX oL hown2 iI (by first|omega|(simp;omega)) (by first|omega|(simp;omega)) x0 (by omega)
   |exact FX oL hown2 iI (by first|omega|(simp;omega)) (by first|omega|(simp;omega)) x2 (by omega)
   |exact qG oL hown2 iI (by first|omega|(simp;omega)) (by first|omega|(simp;omega)) x0 x1 (by omega) (by omega)
   |exact qG oL hown2 iI (by first|omega|(simp;omega)) (by first|omega|(simp;omega)) x1 x0 (by omega) (by omega)
   |exact qG oL hown2 iI (by first|omega|(simp;omega)) (by first|omega|(simp;omega)) x0 x2 (by omega) (by omega)
   |exact qG oL hown2 iI (by first|omega|(simp;omega)) (by first|omega|(simp;omega)) x2 x0 (by omega) (by omega)
   |exact qG oL hown2 iI (by first|omega|(simp;omega)) (by first|omega|(simp;omega)) x2 x3 (by omega) (by omega)
   |exact qG oL hown2 iI (by first|omega|(simp;omega)) (by first|omega|(simp;omega)) x3 x2 (by omega) (by omega)
end
section
open Go.RowKit
theorem LK {α:Type}{R:ZL α}{size:Nat}{w:World}{S:Bs}{c c':List Value}{xs:List α}(hdet:∀cs cs' x,R w S cs x->R w S cs' x->cs=cs')(h:Fl R size w S c xs)(h':Fl R size w S c' xs)(hs:0<size):c=c':=by
 apply List.ext_getElem?;intro i;by_cases hi:i<xs.length*size
 ·have hk:i / size<xs.length:=by
   rw[Nat.div_lt_iff_lt_mul hs];exact hi
  have hx:xs[i / size]? =some xs[i / size]:=aa3 hk;obtain⟨cs,r1,l1,g1⟩:=h.2 _ _ hx;obtain⟨cs',r2,l2,g2⟩:=h'.2 _ _ hx;obtain rfl:=hdet _ _ _ r1 r2;have hj:i % size<cs.length:=by rw[l1];exact Nat.mod_lt _ hs
  have hu:cs[i % size]? =some cs[i % size]:=aa3 hj;have e:i / size*size+i % size=i:=by rw[Nat.mul_comm];exact Nat.div_add_mod i size
  have a:=g1 _ _ hu;have b:=g2 _ _ hu;rw[e] at a b;rw[a,b]
 rw[abp (by rw[h.1];omega),abp (by rw[h'.1];omega)]
theorem Ku {w:World}{S:Bs}{c:List Value}{xs:List Ins}(h:Fl ZQ 2 w S c xs):c=eQ xs:=
 LK (fun _ _ _ a b=>a.1.trans b.1.symm) h (uS w S xs (fun i hi=>by
  obtain⟨k,hk⟩:=abk.1 hi;obtain⟨cs,r,-⟩:=h.2 k i hk;exact r.2)) (by omega)
theorem KW {w:World}{ts:List TypeId}{b:Nat}{A:Option Addr}{xs:List Ins}(h:Sl ZQ 2 w (TS ts b w) A xs):Rd w w.heap.size A xs.length 2 (eQ xs):=by
 obtain⟨c,h1,h2⟩:=h.rdM TS.lt
 rwa [Ku h1] at h2
theorem Ld {a b:List Ins}(h:gU a)(k:gU b):gU (a++b):=fun x hx=>by
 rw[aa5] at hx;rcases hx with hx|hx
 ·exact h x hx
 exact k x hx
theorem Bl (w:World)(m:Nat)(fs:Nat->Value)(lp:Int)(n fu mo:Nat)(h:Mk w m fs lp)(hlp:0<=lp/\lp<=10)(hn:n<=1000)(hfu:fu<=1000)(hm1:1<=mo)(lL:mo<=6):Calls Tryd.prog 37 #[.pointer (some ⟨m,0,none⟩),.int .i64 n,.int .i64 fu,.int .i64 mo] w (qC w m fs 45):=by
 have hmw:=h.lt;have H:=hd0 h;have HL:=hd0 hlp;clear h hlp;go_enter Tryd.func37,Tryd.ntmps37
 go_wp2_with fail
 refine(ak w m fs lp mo H.out hm1 (by omega)).mono ?_;rintro e w1 ⟨x,hx,rfl,hk1,hv1⟩;have H1:=hd0 hk1;have V1:=hd0 hv1;clear hk1 hv1 H;go_wp2_with fail
 go_loopw [9,11] (fun o i wr=>∃(k:Nat) (p:List Ins) (A:Option Addr) (c:Nat) (l:Int),k<=x/\i= .int .i64 k/\o= .slice A p.length c/\wr.ownsRow w.heap.size iO 2 (.slice A p.length c) p.length (eQ p)/\Hid (gU p/\p.length<=9*k/\0<=l/\l<=10)/\Hid (Mk wr m fs l)/\Hid (Mv m w wr)) (fun _ i _=>x - (intOf i).toNat)
 case atStart=>exact⟨0,[],none,0,lp,nz _,rfl,rfl,World.ownsRow_nil _ _ _ _,hd0 ⟨dA,by simp,HL.out⟩,H1,V1⟩
 case round=>
  obtain⟨wa,rfl⟩:∃x,x=wr:=⟨_,rfl⟩
  obtain⟨k,p,A,c,l,hk,rfl,rfl,ho,hp,HM,HV⟩:=hrel;have HO:=hd0 ho;have hpl:p.length<=100:=by have:=hp.out.2.1;omega
  have hz:=HV.out.size;clear ho;by_cases hlt:k<x
  ·go_wp2_with fail
   refine(Ib wa m fs l n fu HM.out hp.out.2.2 hn hfu).mono ?_;rintro e w2 ⟨q,A2,c2,l2,hq,oK,hl2,rfl,hqc,hs2,hm2,hv2⟩;have hO2:=(Sp.next HM.out hv2).own HO.out (by decide);have hR2:=KW hs2;have lD:=cO HV.out hv2;have hz2:=lD.size;have kH:=hd0 hm2;have Au:=hd0 lD;clear hs2 hm2 hv2 lD;go_wp2_with (at_builtin;refine Jf QX rfl (.tmp 20) (.tmp 24) rfl w2 w.heap.size p.length c A (eQ p) w2.heap.size A2 q.length c2 (eQ q) rfl rfl hO2 hR2 (FM q) (by omega) hz2 ?_;intro A5 c5 w5 h5 g5 l5;have tV:=hd0 h5;have oO:=hd0 g5;clear h5 g5 l5)
   have zO:=hd0 ((Sp.push hO2 (show m<=w.heap.size by omega) oO.out).mk kH.out (by decide));have HV5:=hd0 (eX Au.out hO2 (ag _) oO.out);have yV:Hid (w5.ownsRow w.heap.size iO 2 (.slice A5 (p++q).length c5) (p++q).length (eQ (p++q))):=(by rw[la,Gh];exact tV.out)
   have Pm:Hid (gU (p++q)/\(p++q).length<=9*(k+1)/\0<=l2/\l2<=10):=hd0 ⟨Ld hp.out.1 hq,by rw[la];have:=hp.out.2.1;omega,hl2⟩;go_roundw
   case rel=>exact⟨k+1,p++q,A5,c5,l2,by omega,by simp,by simp,yV.out,Pm,zO,HV5⟩
   case measure=>simp[intOf];omega
  go_wp2_with fail
  go_ret
  exact⟨p,A,c,l,hp.out.1,by have:=hp.out.2.1;omega,hp.out.2.2,rfl,AO HO.out,aY HO.out (uS _ _ p (AC hp.out.1)) (by simp) (ag _) (by omega),HM.out,HV.out⟩
def Nl (w:World)(m:Nat)(fs:Nat->Value)(lp:Int)(G:Nat)(e:Ending)(w':World):Prop:=∃(s:List Int) (A:Option Addr) (c:Nat),aak G s/\1<=s.length/\e= .returned (.slice A s.length c)/\Sl Zx 1 w' (TS [ax] w.heap.size w') A s/\Mk w' m fs lp/\Mv m w w'
theorem In.i64 {G:Nat}(hG:G<=1000){n:Int}(h:In G n):I64 n:=by obtain⟨a,b⟩:=h;unfold I64;omega
theorem je (w:World)(m:Nat)(fs:Nat->Value)(lp:Int)(G:Nat)(Ag:Option Addr)(cg:Nat)(h:Mk w m fs lp)(hf:fs 1= .slice Ag G cg)(h1:1<=G)(hG:G<=1000):Calls Tryd.prog 88 #[.pointer (some ⟨m,0,none⟩)] w (Nl w m fs lp G):=by
 have hmw:=h.lt;have qg:w.cell? ⟨m,3,none⟩=some (.slice Ag G cg):=by have:=h.cells.1 1 (by omega);rw[hf] at this;exact this
 have H:=hd0 h;clear h hf;go_enter Tryd.func88,Tryd.ntmps88
 go_wp2_with fail
 refine(ak w m fs lp G H.out h1 (by omega)).mono ?_;rintro e w1 ⟨a,ha,rfl,hk1,hv1⟩;have H1:=hd0 hk1;have V1:=hd0 hv1;clear hk1 hv1 H qg;go_wp2_with fail
 go_loopw [5,6] (fun o i wr=>∃(k:Nat) (s:List Int) (A:Option Addr) (c:Nat),k<=G/\i= .int .i64 k/\o= .slice A s.length c/\s.length<=4/\wr.ownsRow w.heap.size ax 1 (.slice A s.length c) s.length (aI s)/\Hid (aak G s/\1<=s.length/\∀x∈s,x<k)/\Hid (Mk wr m fs lp)/\Hid (Mv m w wr)) (fun _ i _=>G - (intOf i).toNat)
 case atStart=>have hb:Below w1.heap.size w1 (w1.alloc (.cells #[.int .i64 a] ax)):=(aa0 _ _).alloc (ag _) _;refine⟨a+1,[(a:Int)],some ⟨w1.heap.size,0,none⟩,1,by omega,by simp,rfl,by simp,?_,hd0 ⟨aak.one ⟨by omega,by omega⟩,by simp,fun x hx=>by simp only[aa1] at hx;omega⟩,hd0 (H1.out.below hb),hd0 (dX V1.out hb)⟩;exact kX w1 w.heap.size ax 1 1 #[.int .i64 a] V1.out.size rfl (by omega)
 case round=>
  obtain⟨wa,rfl⟩:∃x,x=wr:=⟨_,rfl⟩
  obtain⟨k,s,A,c,hk,rfl,rfl,hs4,ho,hs,HM,HV⟩:=hrel;have HO:=hd0 ho;clear ho;by_cases hlt:k<G
  ·by_cases hl4:s.length<4
   ·go_wp2_with fail
    refine(ak wa m fs lp 3 HM.out (by omega) (by omega)).mono ?_;rintro e w2 ⟨y,hy,rfl,hm2,hv2⟩;have hO2:=(Sp.next HM.out hv2).own HO.out (by decide);have kH:=hd0 hm2;have lD:=cO HV.out hv2;have hz2:=lD.size;have Au:=hd0 lD;clear hm2 hv2 lD;by_cases hy0:y=0
    ·have e0:((y:Int)==0)=true:=by simp;omega
     have HS2:Hid (aak G (s++[(k:Int)])/\1<=(s++[(k:Int)]).length/\∀x∈s++[(k:Int)],x<((k+1:Nat):Int)):=hd0 ⟨hs.out.1.snoc ⟨by omega,by omega⟩ hs.out.2.2 hl4,by simp,fun x hx=>by
      rw[aa5,aa1] at hx;rcases hx with hx|rfl
      ·have:=hs.out.2.2 x hx;omega
      omega⟩
     clear hy0;go_wp2_with (at_builtin;refine pq jC rfl (.tmp 33) (.tmp 35) rfl w2 w2.heap.size rfl w.heap.size s.length c A (aI s) #[.int .i64 k] rfl rfl rfl hO2 (by simp[Value.oneCell']) (by omega) hz2 ?_;intro A5 c5 w5 h5 g5 l5;have tV:=hd0 h5;have oO:=hd0 g5;clear h5 g5 l5)
     have zO:=hd0 ((Sp.push hO2 (show m<=w.heap.size by omega) oO.out).mk kH.out (by decide));have HV5:=hd0 (eX Au.out hO2 (ag _) oO.out);have yV:Hid (w5.ownsRow w.heap.size ax 1 (.slice A5 (s++[(k:Int)]).length c5) (s++[(k:Int)]).length (aI (s++[(k:Int)]))):=hd0 (by simpa [aI,cI] using tV.out);go_roundw
     case rel=>exact⟨k+1,s++[(k:Int)],A5,c5,by omega,by simp,by simp,by simp;omega,yV.out,HS2,zO,HV5⟩
     case measure=>simp[intOf];omega
    have e0:((y:Int)==0)=false:=by simp;omega
    have tK:=hd0 hO2;have HS2:Hid (aak G s/\1<=s.length/\∀x∈s,x<((k+1:Nat):Int)):=hd0 ⟨hs.out.1,hs.out.2.1,fun x hx=>by have:=hs.out.2.2 x hx;omega⟩;clear hy0 hO2;go_wp2_with fail
    go_roundw
    case rel=>exact⟨k+1,s,A,c,by omega,by simp,rfl,hs4,tK.out,HS2,kH,Au⟩
    case measure=>simp[intOf];omega
   go_wp2_with fail
   go_ret
   exact⟨s,A,c,hs.out.1,hs.out.2.1,rfl,aY HO.out (dU _ _ s (fun n hn=>In.i64 hG (hs.out.1.set.2 n hn))) (by simp) (ag _) (by omega),HM.out,HV.out⟩
  go_wp2_with fail
  go_ret
  exact⟨s,A,c,hs.out.1,hs.out.2.1,rfl,aY HO.out (dU _ _ s (fun n hn=>In.i64 hG (hs.out.1.set.2 n hn))) (by simp) (ag _) (by omega),HM.out,HV.out⟩
abbrev tRow:TypeId:=22
def GL (w:World)(m:Nat)(fs:Nat->Value)(lp:Int)(G:Nat)(e:Ending)(w':World):Prop:=∃(s:List (List Int)) (A:Option Addr) (c:Nat),ZC G 2 s/\e= .returned (.slice A s.length c)/\Sl Zw 1 w' (TS [ax,tRow] w.heap.size w') A s/\Mk w' m fs lp/\Mv m w w'
theorem dw (w:World)(m:Nat)(fs:Nat->Value)(lp:Int)(G:Nat)(Ag:Option Addr)(cg:Nat)(h:Mk w m fs lp)(hf:fs 1= .slice Ag G cg)(h1:1<=G)(hG:G<=1000):Calls Tryd.prog 89 #[.pointer (some ⟨m,0,none⟩),.int .i64 2] w (GL w m fs lp G):=by
 have hmw:=h.lt;have H:=hd0 h;have HF:=hd0 hf;clear h hf;go_enter Tryd.func89,Tryd.ntmps89
 go_wp2_with fail
 refine(ak w m fs lp 3 H.out (by omega) (by omega)).mono ?_;rintro e w1 ⟨x,hx,rfl,hk1,hv1⟩;have H1:=hd0 hk1;have V1:=hd0 hv1;clear hk1 hv1 H;go_wp2_with fail
 go_loopw [5,7] (fun o i wr=>∃(k:Nat) (s:List (List Int)) (cs:List Value) (A:Option Addr) (c:Nat),k<=x/\i= .int .i64 k/\o= .slice A s.length c/\s.length=k/\wr.ownsRow w.heap.size tRow 1 (.slice A s.length c) s.length cs/\Hid (Fl Zw 1 wr (TS [ax] w.heap.size wr) cs s)/\Hid (∀r∈s,aak G r)/\Hid (Mk wr m fs lp)/\Hid (Mv m w wr)) (fun _ i _=>x - (intOf i).toNat)
 case atStart=>exact⟨0,[],[],none,0,nz _,rfl,rfl,rfl,World.ownsRow_nil _ _ _ _,hd0 Fl.nil,hd0 (by simp),H1,V1⟩
 case round=>
  obtain⟨wa,rfl⟩:∃x,x=wr:=⟨_,rfl⟩
  obtain⟨k,s,cs,A,c,hk,rfl,rfl,hsk,ho,hfl,hs,HM,HV⟩:=hrel;have HO:=hd0 ho;have hz:=HV.out.size;have hs3:s.length<=3:=by omega
  have HK:=hd0 hsk;clear ho hsk;by_cases hlt:k<x
  ·go_wp2_with fail
   refine(je wa m fs lp G Ag cg HM.out HF.out h1 hG).mono ?_;rintro e w2 ⟨r,A2,c2,hr,hr1,rfl,hs2,hm2,hv2⟩;have sp:=Sp.next HM.out hv2;have hO2:=sp.own HO.out (by decide);have Po:=sp.fl Zw.ok (by decide) hfl.out;have lD:=cO HV.out hv2;have hz2:=lD.size;have hf2:Fl Zw 1 w2 (TS [ax] w.heap.size w2) (cs++[.slice A2 r.length c2]) (s++[r]):=Po.snoc ⟨A2,c2,rfl,hs2.ts Zx.ok (fun t h=>h) hz⟩ rfl;have HF2:=hd0 hf2;have kH:=hd0 hm2;have Au:=hd0 lD;clear hs2 hm2 hv2 lD Po hf2 sp;go_wp2_with (at_builtin;refine pq Dx rfl (.tmp 17) (.tmp 20) rfl w2 w2.heap.size rfl w.heap.size s.length c A cs #[.slice A2 r.length c2] rfl rfl rfl hO2 (by simp[Value.oneCell']) (by omega) hz2 ?_;intro A5 c5 w5 h5 g5 l5;have tV:=hd0 h5;have oO:=hd0 g5;clear h5 g5 l5)
   have Qj:=Sp.push hO2 (show m<=w.heap.size by omega) oO.out;have zO:=hd0 (Qj.mk kH.out (by decide));have HV5:=hd0 (eX Au.out hO2 (ag _) oO.out);have VY:=hd0 (Qj.fl Zw.ok (by decide) HF2.out);have yV:Hid (w5.ownsRow w.heap.size tRow 1 (.slice A5 (s++[r]).length c5) (s++[r]).length (cs++[.slice A2 r.length c2])):=hd0 (by simpa using tV.out);clear Qj;have Vr:Hid (∀q∈s++[r],aak G q):=hd0 (fun q hq=>by
    rw[aa5,aa1] at hq;rcases hq with hq|rfl
    ·exact hs.out q hq
    exact hr)
   go_roundw
   case rel=>exact⟨k+1,s++[r],cs++[.slice A2 r.length c2],A5,c5,by omega,by simp,by simp,by simp[HK.out],yV.out,VY,Vr,zO,HV5⟩
   case measure=>simp[intOf];omega
  go_wp2_with fail
  go_ret
  exact⟨s,A,c,⟨hs.out,by have:=HK.out;omega⟩,rfl,aY HO.out (hfl.out.mono Zw.ok (TS.mono (by simp) (ag _))) (by simp) (ag _) (by omega),HM.out,HV.out⟩
end
section
open Go.RowKit Go.Shelf
attribute [local go_sem] Oper.semAt_some
theorem RoundIn.wide {P:Program}{l m k l2:Nat}{f:FuncId}{tmps:Array Value}{assign body:Code}{w:World}{R:Ending->World->Prop}(h:RoundIn Fence.wide m P l f tmps assign body w R):RoundIn (Fence.wide.inRound l2) k P l f tmps assign body w R:=⟨h.1,fun c cs _=>h.2 c cs (fun _ hd=>by cases hd)⟩
def Going {α:Type}(J:List α->World->Prop)(R:World->World->Prop)(xs:List α)(W:World)(e:Ending)(W':World):Prop:=e= .returned (.bool true)/\J xs W'/\R W W'/\KeepsOthers W W'
def Gives {α:Type}(P:Program)(gf:Nat)(lb:Array Value)(encs:α->Array Value)(V:List α->α->World->Prop)(R:World->World->Prop)(S:List α->Prop)(d:Nat)(w:World):Prop:=
 ∀(l n:Nat) (J:List α->World->Prop) (W:World),d<=n->l<W.heap.size->Below w.heap.size w W->OwnFrom W.heap.size J->
  (∀pre x W1,J pre W1->V pre x W1->YieldAt Fence.wide 0 P l (encs x) W1 (Going J R (pre++[x]) W1))->J [] W->
  CallsIn Fence.wide n P gf (#[.func (.yield l) #[] #[]]++lb) W fun e W'=>(∃v,e= .returned v)/\∃xs,S xs/\J xs W'
def Ob {α:Type}(I:List α->World->Prop)(R:World->World->Prop)(xs:List α)(W:World):Exit->Act->World->Prop
 | .normal,_,W'=>I xs W'/\R W W'/\KeepsOthers W W'
 |_,_,_=>False
theorem lS {P:Program}{α:Type}{g:Operand}{ps:Array Tmp}{assign body:Code}{Q:Exit->Act->World->Prop}{a:Act}{w:World}{n gf:Nat}{lb:Array Value}
  {d:Nat} (hn:d+1<=n) (hg:a.eval g= .func (.func gf) #[] lb) (eg:∀args w,(callFunc gf args).run P w= .ok (.enter gf args) w)
  {encs:α->Array Value} (hps:∀x,(encs x).size=ps.size) {V:List α->α->World->Prop} {R:World->World->Prop} {S:List α->Prop} (hit:Gives P gf lb encs V R S d w)
  (hRt:∀ {A B C:World},R A B->R B C->R A C) (hRp:∀(W:World) (l:Nat) (o o':Obj),W.heap[l]? =some o->o.isCells=false->R W (W.putObj l o'))
  (hVp:∀(xs:List α) (x:α) (W:World) (l:Nat) (o o':Obj),V xs x W->W.heap[l]? =some o->o.isCells=false->V xs x (W.putObj l o'))
  (I:List α->World->Prop) (hI:OwnFrom w.heap.size I) (h0:I [] w) (a1:α->Act)
  (hassign:∀(l:Nat) (x:α) (W:World) (K:Act->World->Prop),K (a1 x) W->assign.wpIn (Fence.wide.inRound l) 0 P (Exit.then K (fun _ _ _=>False)) {tmps:=(ps.zip (encs x)).foldl (fun t (p,v)=>t.setIfInBounds p v) a.tmps,defers:=[]} W)
  (hbody:∀(l:Nat) (pre:List α) (x:α) (W:World),I pre W->V pre x W->body.wpIn (Fence.wide.inRound l) 0 P (Ob I R (pre++[x]) W) (a1 x) W)
  (hdone:∀(D:Nat) (xs:List α) (W:World),w.heap.size<=D->S xs->I xs W->W.heap[D]? =some (.deferred (some []))->Q .normal {a with defers:= {target:= .collected D,args:= #[]} ::a.defers} W):
  (Code.rangeFunc g ps assign body).wpIn Fence.wide n P Q a w:=by
 refine wpIn_rangeFunc ?_;intro fn hfn;obtain⟨rc,hrc⟩:∃rc:LoopState->Loop,rc=fun st=> {state:=st,pending:=none,fn,tmps:=a.tmps,params:=ps,assign,body,defers:=w.heap.size} :=⟨_,rfl⟩
 obtain⟨V0,hV⟩:∃V0,(w.alloc (.deferred (some []))).alloc (.loop (rc .ready))=V0:=⟨_,rfl⟩
 have Xy:V0.heap.size=w.heap.size+2:=by rw[<-hV];simp
 have QA:V0.heap[w.heap.size+1]? =some (.loop (rc .ready)):=by have h:=World.alloc_heap_new (w.alloc (.deferred (some []))) (.loop (rc .ready));rw[World.size_alloc] at h;rw[<-hV];exact h
 have MX:V0.heap[w.heap.size]? =some (.deferred (some [])):=by rw[<-hV];exact(Below.heap_alloc _ _ _ (by simp)).trans (World.alloc_heap_new w _)
 have PQ:Below w.heap.size w V0:=by rw[<-hV];exact((aa0 _ w).alloc (ag _) _).alloc (by simp) _
 have NP:I [] V0:=by rw[<-hV];exact hI.alloc _ (hI.alloc _ h0)
 refine⟨w.heap.size+1,[{target:= .collected w.heap.size,args:= #[]}],V0,{target:= .fn (.func gf) lb,args:= #[.func (.yield (w.heap.size+1)) #[] #[]]},V0,gf,#[.func (.yield (w.heap.size+1)) #[] #[]]++lb,V0,?_,?_,?_,?_,fun _=>by omega,?_⟩
 ·rw[<-hV,hrc];exact run_enterLoop_outer _ _ _ _ _
 ·simp only[resolve,hg];simp[go_sem]
 ·intro f' _;trivial
 ·simp[invoke,go_sem,eg]
 have PG:OwnFrom V0.heap.size (fun pre W=>I pre W/\W.heap[w.heap.size+1]? =some (.loop (rc .ready))/\W.heap[w.heap.size]? =some (.deferred (some []))):=by
  intro s A B row hs hgr hr;have hlow:∀k,k<w.heap.size+2->∀o,A.heap[k]? =some o->B.heap[k]? =some o:=fun k hk o ho=>(hgr.block k (aa4.1 ho).1 (fun e=>by have:=(hr k e.symm).1;omega)).trans ho
  exact⟨hI s A B row hs.1 hgr (fun r e=>⟨by have:=(hr r e).1;omega,(hr r e).2⟩),hlow _ (by omega) _ hs.2.1,hlow _ (by omega) _ hs.2.2⟩
 refine(hit (w.heap.size+1) (n - 1) _ V0 (by omega) (by omega) PQ PG ?_ ⟨NP,QA,MX⟩).mono ?_
 ·rintro pre x W ⟨hi,hl,hd⟩ Xr;have hlt:=(aa4.1 hl).1;have hy:=run_yield (P:=P) (args:=encs x) hl (by rw[hrc];exact hps x);rw[hrc] at hy;refine⟨fn,_,assign,body,hy,roundIn_of_wpIn hfn (hassign _ x W _ ⟨_,run_beginRound hl (by rw[hrc]),?_⟩)⟩;have hl2:(W.putObj (w.heap.size+1) (.loop {rc .ready with state:= .busy})).heap[w.heap.size+1]? =some (.loop {rc .ready with state:= .busy}):=World.putObj_heap_same hlt;have hd2:(W.putObj (w.heap.size+1) (.loop {rc .ready with state:= .busy})).heap[w.heap.size]? =some (.deferred (some [])):=(World.putObj_heap_other (by omega)).trans hd;have hr2:R W (W.putObj (w.heap.size+1) (.loop {rc .ready with state:= .busy})):=hRp _ _ _ _ hl rfl;refine wpIn_mono (hbody _ pre x _ (hI.putObj _ hi (by omega) hl rfl) (hVp _ _ _ _ _ _ Xr hl rfl)) ?_;rintro e a3 W3 hp;cases e with
  |normal=>
   obtain⟨hi3,hr3,hk3⟩:=hp;have hl3:=hk3.same _ _ hl2 rfl;have hd3:=hk3.same _ _ hd2 rfl;have hrun:=run_endRound (P:=P) none hl3;have hsame:({{rc .ready with state:= .busy} with state:=if(none:Option Code).isNone then LoopState.ready else .done,pending:=none} :Loop)=rc .ready:=by rw[hrc];rfl
   rw[hsame] at hrun;have hl4:(W3.putObj (w.heap.size+1) (.loop (rc .ready))).heap[w.heap.size+1]? =some (.loop (rc .ready)):=World.putObj_heap_same (aa4.1 hl3).1;refine⟨_,_,hrun,rfl,⟨hI.putObj _ hi3 (by omega) hl3 rfl,hl4,(World.putObj_heap_other (by omega)).trans hd3⟩,hRt (hRt hr2 hr3) (hRp _ _ _ _ hl3 rfl),?_,fun j o hj ho=> ?_⟩
   ·have h1:=hk3.size;simp at h1 ⊢;exact h1
   by_cases hjl:j=w.heap.size+1
   ·subst hjl;rw[hl] at hj;cases hj;exact hl4
   exact(World.putObj_heap_other hjl).trans (hk3.same j o ((World.putObj_heap_other hjl).trans hj) ho)
  |ret=>exact hp.elim
  |exit id=>exact hp.elim
  |goto t=>exact hp.elim
  |panic ch=>exact hp.elim
  |outgrown=>exact hp.elim
 rintro e W2 ⟨⟨v,rfl⟩,xs,hS,hi,hl,hd⟩;have hrun:=run_endLoop (P:=P) hl (by rw[hrc];simp);have hpn:(rc .ready).pending=none:=by rw[hrc]
 rw[hpn] at hrun;refine⟨none,_,hrun,?_⟩;exact hdone _ xs _ (ag _) hS (hI.putObj _ hi (by omega) hl rfl) ((World.putObj_heap_other (by omega)).trans hd)
structure KC (w w':World):Prop where
 same:∀(b:Nat) (cs:Array Value) (t:TypeId) (fz:Nat×Nat),w.heap[b]? =some (.cells cs t fz)->t≠5->t≠96->w'.heap[b]? =some (.cells cs t fz)
 size:w.heap.size<=w'.heap.size
theorem KC.trans {a b c:World}(h:KC a b)(k:KC b c):KC a c:=⟨fun x cs t fz hx h1 h2=>k.same x cs t fz (h.same x cs t fz hx h1 h2) h1 h2,nt h.size k.size⟩
theorem KC.put (W:World)(l:Nat)(o o':Obj)(h:W.heap[l]? =some o)(hc:o.isCells=false):KC W (W.putObj l o'):=by
 refine⟨fun b cs t fz hb _ _=> ?_,by simp⟩;have hne:b≠l:=by rintro rfl;rw[h] at hb;cases hb;cases hc
 exact(World.putObj_heap_other hne).trans hb
theorem KP.kc {w w':World}(h:KP w w'):KC w w':=⟨fun b cs t fz hb h1 h2=>h.same b _ hb ⟨h1,h2⟩,h.size⟩
theorem KP.others {w w':World}(h:KP w w'):KeepsOthers w w':=⟨h.size,fun k o hk hc=>h.same k o hk (by cases o<;>first|trivial|cases hc)⟩
theorem KC.bk {w w':World}(h:KC w w'){g:Nat}{t:TypeId}{cs:Array Value}(hb:Bk w g t cs)(h1:t≠5)(h2:t≠96):Bk w' g t cs:=h.same g cs t (0,0) hb h1 h2
abbrev qf:=Nat×Nat×Nat×Nat
def BR (x:qf):Array Value:= #[.int .i64 (x.1:Int),.slice (some ⟨x.2.2.2,x.2.1*3,none⟩) (x.2.2.1+1 - x.2.1) (x.2.2.1+1 - x.2.1)]
def ut (g:Nat)(l:List (Nat×Nat×Nat)):List qf:=l.map (fun p=>(p.1,p.2.1,p.2.2,g))
def VC (n:Nat)(cs:List Value)(es:List Int)(pre:List qf)(x:qf)(W:World):Prop:=pre++[x]<+:ut x.2.2.2 (iw n 0 0 es)/\x.2.1<=x.2.2.1/\x.2.2.1<n/\Z4 W 146 (some ⟨x.2.2.2,0,none⟩) n 3 cs
def SC (n:Nat)(es:List Int)(xs:List qf):Prop:=∃g,xs=ut g (iw n 0 0 es)
theorem VC.putObj (n:Nat)(cs:List Value)(es:List Int)(xs:List qf)(x:qf)(W:World)(l:Nat)(o o':Obj)(h:VC n cs es xs x W)(hl:W.heap[l]? =some o)(hc:o.isCells=false):VC n cs es xs x (W.putObj l o'):=⟨h.1,h.2.1,h.2.2.1,h.2.2.2.other (grownBy_putObj' W l o') (fun r e=>by cases e;exact⟨o,hl,hc⟩)⟩
theorem RoundIn.any {P:Program}{l m k:Nat}{f:FuncId}{tmps:Array Value}{assign body:Code}{w:World}{R:Ending->World->Prop}(h:RoundIn Fence.wide m P l f tmps assign body w R):RoundIn Fence.wide k P l f tmps assign body w R:=⟨h.1,fun c cs _=>h.2 c cs (fun _ hd=>by cases hd)⟩
abbrev xg:=Nat×Nat×Nat
def Ea (b o:Nat)(x:xg):Array Value:= #[.int .i64 (x.1:Int),.slice (some ⟨b,o+x.2.1*3,none⟩) (x.2.2+1 - x.2.1) (x.2.2+1 - x.2.1)]
def VP (len:Nat)(es:List Int)(pre:List xg)(x:xg)(_:World):Prop:=pre++[x]<+:iw len 0 0 es/\x.2.1<=x.2.2/\x.2.2<len
def SP (len:Nat)(es:List Int)(xs:List xg):Prop:=xs=iw len 0 0 es
theorem KC.rdT {w w':World}(h:KC w w'){t:TypeId}{A:Option Addr}{n size:Nat}{cs:List Value}(hr:Z4 w t A n size cs)(h1:t≠5)(h2:t≠96):Z4 w' t A n size cs:=
 ⟨hr.1,fun hn=>by
  obtain⟨b,o,cur,e,hb,hc⟩:=hr.2 hn;exact⟨b,o,cur,e,h.bk hb h1 h2,hc⟩⟩
theorem KC.refl (w:World):KC w w:=(KP.refl w).kc
theorem KC.below {w w':World}(h:Below w.heap.size w w'):KC w w':=(KP.below h).kc
theorem zQ (w:World)(be br b o len cap m d:Nat)(A E:Option Addr)(es:List Int)(hbe:Bk w be 22 #[.slice E m d])(hbr:Bk w br 49 #[.slice A len cap])(hE:Z4 w 3 E m 1 (aI es))
  (hAb:0<len->A=some ⟨b,o,none⟩) (hcap:len<=cap) (hlen:cap<=9223372036854775807) (hm:m<=9223372036854775807):
  Gives Tryd.prog 92 #[.pointer (some ⟨be,0,none⟩),.pointer (some ⟨br,0,none⟩)] (Ea b o) (VP len es) KC (SP len es) 8 w:=by
 intro l n J W hn _ hW _ hY h0;have hcW:=KC.below hW;have Qg:=hcW.bk hbe (by decide) (by decide);have UI:=hcW.bk hbr (by decide) (by decide);have hE1:=hcW.rdT hE (by decide) (by decide);have hel:=hE1.rd.aaW;have XH:=hd0 hel;clear hel hbe hbr hE hW hcW;have HY:=hd0 hY;clear hY;have c0:W.cell? ⟨be,0,none⟩=some (.slice E m d):=Qg.cell 0;refine callsIn_of_wp Tryd.func92 rfl trivial ?_ rfl;simp only[Tryd.ntmps92,List.size_toArray,lc,ln,Nat.reduceAdd,Nat.reduceSub,Array.replicate_succ,Array.replicate_zero,List.push_toArray,List.append_toArray,abC,abh]
 gi_wp2
 gi_loopw [4,9] (fun f i wr=>∃(k q:Nat) (pre:List xg),k<=m/\q<=len/\i= .int .i64 k/\f= .int .i64 q/\J pre wr/\KC W wr/\Hid (pre++iw len k q (es.drop k)=iw len 0 0 es))
  (fun _ i _=>m - (intOf i).toNat)
 case atStart=>exact⟨0,0,[],by omega,by omega,rfl,rfl,h0,KC.refl _,rfl⟩
 case round=>
  obtain⟨k,q,pre,hk,hq,rfl,rfl,hJs,hnx,hpre⟩:=hrel;have Yl:wr.cell? ⟨be,0,none⟩=some (.slice E m d):=(hnx.bk Qg (by decide) (by decide)).cell 0;have Yy:wr.cell? ⟨br,0,none⟩=some (.slice A len cap):=(hnx.bk UI (by decide) (by decide)).cell 0;clear c0;by_cases hlt:k<m
  ·obtain⟨Y2,bo,e,rfl,-,he,hce⟩:=(hnx.rdT hE1 (by decide) (by decide)).rd.atI hlt;have hdrop:Hid (es.drop k=e::es.drop (k+1)):=by obtain⟨h1,h2⟩:=aa2.1 he.out;have:=List.drop_eq_getElem_cons h1;rw[h2] at this;exact this
   by_cases hlow:e<(q:Int)
   ·have hd:decide (e<(q:Int))=true:=by simp[hlow]
    gi_wp2
    refine bodyPost_ret (results_none rfl _ _ _) rfl ?_;refine⟨⟨_,rfl⟩,pre,?_,hJs⟩;have:=hpre.out;rw[hdrop.out,iw,if_neg (by omega)] at this;show _=_;simpa using this
   have hd:decide (e<(q:Int))=false:=by simp;omega
   by_cases hhi:(len:Int)<=e
   ·gi_wp2
    refine bodyPost_ret (results_none rfl _ _ _) rfl ?_;refine⟨⟨_,rfl⟩,pre,?_,hJs⟩;have:=hpre.out;rw[hdrop.out,iw,if_neg (by omega)] at this;show _=_;simpa using this
   obtain⟨en,rfl⟩:∃en:Nat,e=en:=⟨e.toNat,by omega⟩
   have hqe:q<=en:=by omega
   have hel:en<len:=by omega
   obtain rfl:=hAb (by omega);have hnext:Hid ((pre++[((k,q,en):xg)])++iw len (k+1) (en+1) (es.drop (k+1))=iw len 0 0 es):=by have:=hpre.out;rw[hdrop.out,iw,if_pos (by omega)] at this;show _=_;simpa using this
   obtain⟨fn,tmps,assign,body,hy,hR⟩:=HY.out pre (k,q,en) wr hJs ⟨⟨_,hnext.out⟩,hqe,hel⟩;simp only[Ea] at hy;clear hlow hhi
   gi_wp2
   refine⟨fun _=>nt (by decide) hn,?_⟩;refine(RoundIn.any hR).mono ?_;rintro e W3 ⟨rfl,hJ3,hk3,-⟩
   gi_wp2
   go_roundw
   case rel=>exact⟨k+1,en+1,_,by omega,by omega,by go_num,by go_num,hJ3,hnx.trans hk3,hnext⟩
   case measure=>simp[intOf];omega
  gi_wp2
  go_end0
  refine⟨⟨_,rfl⟩,pre,?_,hJs⟩;have:=hpre.out;rw[abz (by have:=XH.out;omega)] at this;show _=_;simpa [iw] using this
end
end Go.Proofs.YtkijckccfookeaaDoor
