/- Lemmas. -/
import Derived.Test.YtkijckccfookeaaDoorX16
import Derived.RangeFuncNested
import Derived.RangeFuncBound
import Derived.Shelf.RegionOpen
import Derived.OwnWalkIn
import Derived.LoopNIn
import Derived.LoopIn
set_option linter.unusedVariables false
set_option linter.unusedSimpArgs false
set_option maxRecDepth 100000
set_option maxHeartbeats 32000000
namespace Go.Proofs.YtkijckccfookeaaDoor
section
open Go.RowKit Go.Shelf
attribute [local go_sem] Oper.semAt_some
theorem XG:(Tryd.prog.info? 146).map (fun i=>(i.zero,i.size,i.bytes))=some (some (.agg #[.int .i64 0,.int .i64 0,.bool false]),3,24):=by kernel_rfl
theorem info3:(Tryd.prog.info? 3).map (fun i=>(i.zero,i.size,i.bytes))=some (some (.int .i64 0),1,8):=by kernel_rfl
theorem QY (w:World)(a:Option Addr)(n c:Nat):(binOp .eql 49 (.slice a n c) (.slice none 0 0)).run Tryd.prog w= .ok (.bool a.isNone) w:=Lib.run_eql_slice_nil w _ _ a n c 0 0 Tryd.underlying49
theorem QG (w:World)(a:Option Addr)(n c:Nat):(binOp .eql 22 (.slice a n c) (.slice none 0 0)).run Tryd.prog w= .ok (.bool a.isNone) w:=Lib.run_eql_slice_nil w _ _ a n c 0 0 Tryd.underlying22
theorem Qe (w:World)(B:Nat)(A:Option Addr)(n c:Nat)(cs:List Value)(h1c:∀u∈cs,u.oneCell'=true)(hA:Rd w B A n 3 cs)(hB:B<=w.heap.size)(hn:n*24<=140737488355328):
  Calls Tryd.prog 67 #[.slice A n c] w fun e w'=>∃v,e= .returned v/\w'.ownsRow w.heap.size 146 3 v n cs/\Below w.heap.size w w':=by
 obtain⟨i0,hi0,hz0,hz1,hz2⟩:=info_parts XG;have hnil:=QY;rcases A with _|ad
 ·have h0:n=0:=by
   rcases Nat.eq_zero_or_pos n with h|h
   ·exact h
   obtain⟨b,o,e,_⟩:=hA.2 h;cases e
  have hc:cs=[]:=List.eq_nil_of_length_eq_zero (by rw[hA.1,h0]);have H:=hd0 h0;have Hc:=hd0 hc;clear h0 hc;go_enter Tryd.func67,Tryd.ntmps67
  go_wp2;go_ret
  refine⟨.slice none 0 0,rfl,?_,agE _ _⟩;rw[H.out,Hc.out];exact World.ownsRow_nil _ _ _ _
 go_enter Tryd.func67,Tryd.ntmps67
 go_wp2_with (at_builtin;refine jL _ rfl (.tmp 5) (.tmp 6) 49 rfl w.heap.size 146 i0 _ 3 24 Tryd.underlying49 hi0 hz0 hz1 hz2 rfl (by decide) (.slice (some ⟨w.heap.size,0,none⟩) 0 0) 0 [] rfl (World.ownsRow_made w #[] 0 (ai _) (by simp[maxLen]) rfl) B (some ad) n c cs rfl (hA.alloc hB _) (h1c) (by simp only[maxLen];omega) (by omega) (by simp) ?_;intro v1 w1 hown1 hg1 hat1)
 go_ret
 refine⟨v1,rfl,by simpa using hown1,((agE _ _).alloc (ai _) _).grown hg1 (by simp) (by simp[Value.ownBlock])⟩
theorem Wv (w:World)(B:Nat)(A:Option Addr)(n c:Nat)(ps:List Int)(hA:Rd w B A n 1 (aN ps))(hB:B<=w.heap.size)(hn:n*8<=140737488355328):
  Calls Tryd.prog 68 #[.slice A n c] w fun e w'=>∃v,e= .returned v/\w'.ownsRow w.heap.size 3 1 v n (aN ps)/\Below w.heap.size w w':=by
 obtain⟨i0,hi0,hz0,hz1,hz2⟩:=info_parts info3;have hnil:=QG;rcases A with _|ad
 ·have h0:n=0:=by
   rcases Nat.eq_zero_or_pos n with h|h
   ·exact h
   obtain⟨b,o,e,_⟩:=hA.2 h;cases e
  have hc:aN ps=[]:=List.eq_nil_of_length_eq_zero (by rw[hA.1,h0]);have H:=hd0 h0;have Hc:=hd0 hc;clear h0 hc;go_enter Tryd.func68,Tryd.ntmps68
  go_wp2;go_ret
  refine⟨.slice none 0 0,rfl,?_,agE _ _⟩;rw[H.out,Hc.out];exact World.ownsRow_nil _ _ _ _
 go_enter Tryd.func68,Tryd.ntmps68
 go_wp2_with (at_builtin;refine jL _ rfl (.tmp 5) (.tmp 6) 22 rfl w.heap.size 3 i0 _ 1 8 Tryd.underlying22 hi0 hz0 hz1 hz2 rfl (by decide) (.slice (some ⟨w.heap.size,0,none⟩) 0 0) 0 [] rfl (World.ownsRow_made w #[] 0 (ai _) (by simp[maxLen]) rfl) B (some ad) n c (aN ps) rfl (hA.alloc hB _) (abR ps) (by simp only[maxLen];omega) (by omega) (by simp) ?_;intro v1 w1 hown1 hg1 hat1)
 go_ret
 refine⟨v1,rfl,by simpa using hown1,((agE _ _).alloc (ai _) _).grown hg1 (by simp) (by simp[Value.ownBlock])⟩
def lD (len:Nat):Nat->Nat->List Int->List (Nat×Nat×Nat)
 |_,_,[]=>[]
 |k,f,e::es=>if(f:Int)<=e/\e<(len:Int) then(k,f,e.toNat)::lD len (k+1) (e.toNat+1) es else []
theorem F8 (A E:Option Addr)(n c m d:Nat)(w:World):Calls Tryd.prog 70 #[.slice A n c,.slice E m d] w fun x w'=>x= .returned (.func (.func 92) #[] #[.pointer (some ⟨w.heap.size+1,0,none⟩),.pointer (some ⟨w.heap.size,0,none⟩)])/\
  w'=(w.alloc (.cells #[.slice A n c] 49)).alloc (.cells #[.slice E m d] 22):=by
 go_enter Tryd.func70,Tryd.ntmps70
 go_wp2;go_ret
 exact⟨by simp,rfl⟩
theorem bK {w:World}(o:Obj){p:Addr}{v:Value}(h:w.cell? p=some v):(w.alloc o).cell? p=some v:=ae ((agE _ _).alloc (ai _) o) h
theorem bk1 (w:World)(v:Value)(t:TypeId):Bk (w.alloc (.cells #[v] t)) w.heap.size t #[v]:=heap_alloc_new w _
theorem bk2 (w:World)(o:Obj)(v:Value)(t:TypeId):Bk ((w.alloc o).alloc (.cells #[v] t)) (w.heap.size+1) t #[v]:=by
 have h:=bk1 (w.alloc o) v t
 rwa [World.size_alloc] at h
theorem Bk.below {w w':World}{g:Nat}{t:TypeId}{cs:Array Value}(h:Bk w g t cs)(hb:Below w.heap.size w w'):Bk w' g t cs:=(hb.block g h.lt).trans h
def Dz (w:World)(n m:Nat)(cs:List Value)(es:List Int)(e:Ending)(w':World):Prop:=∃v u pb eb,e= .returned (.func (.func 69) #[] #[.pointer (some ⟨pb,0,none⟩),.pointer (some ⟨eb,0,none⟩)])/\w'.ownsRow w.heap.size 146 3 v n cs/\w'.ownsRow w.heap.size 3 1 u m (aN es)/\Bk w' pb 49 #[v]/\Bk w' eb 22 #[u]/\w.heap.size<=pb/\w.heap.size<=eb/\Below w.heap.size w w'
theorem fB {w:World}{base:Nat}{e t:TypeId}{s:Nat}{v:Value}{n:Nat}{xs:List Value}(h:w.ownsRow base e s v n xs){g:Nat}{cs:Array Value}(hb:Bk w g t cs)(hne:e≠t)(i:Nat)(u:Value):(w.setCell ⟨g,i,none⟩ u).ownsRow base e s v n xs:=by
 refine h.kept (row:=some g) (bU (p:=⟨g,i,none⟩) (World.grownBy.refl _ _) (.inl rfl) _) (.inr (fun e'=> ?_));obtain⟨cur,hk⟩:=gW h g e';have h1:w.heap[g]? =_:=hb;have h2:w.heap[g]? =_:=hk;rw[h1] at h2;injection h2 with h3
 injection h3 with _ h4
 exact hne h4.symm
section
variable {w w2:World} {n m b1 b2:Nat} {cs:List Value} {es:List Int} {v u:Value} (hb:Below w.heap.size w w2) (h1:w2.ownsRow b1 146 3 v n cs) (h2:w2.ownsRow b2 3 1 u m (aN es)) (hb1:w.heap.size<=b1) (hb2:w.heap.size<=b2)
include hb h1 h2 hb1 hb2
theorem YD:Dz w n m cs es (.returned (.func (.func 69) #[] #[.pointer (some ⟨w2.heap.size,0,none⟩),.pointer (some ⟨w2.heap.size+1,0,none⟩)])) ((w2.alloc (.cells #[v] 49)).alloc (.cells #[u] 22)):=⟨v,u,_,_,rfl,ownsRow_base ((h1.alloc _).alloc _) hb1,ownsRow_base ((h2.alloc _).alloc _) hb2,(bk1 _ _ _).alloc _,bk2 _ _ _ _,hb.size,Nat.le_succ_of_le hb.size,(hb.alloc hb.size _).alloc (by have:=hb.size;simp;omega) _⟩
theorem VQ:Dz w n m cs es (.returned (.func (.func 69) #[] #[.pointer (some ⟨w2.heap.size+1,0,none⟩),.pointer (some ⟨w2.heap.size,0,none⟩)])) ((w2.alloc (.cells #[u] 22)).alloc (.cells #[v] 49)):=⟨v,u,_,_,rfl,ownsRow_base ((h1.alloc _).alloc _) hb1,ownsRow_base ((h2.alloc _).alloc _) hb2,bk2 _ _ _ _,(bk1 _ _ _).alloc _,Nat.le_succ_of_le hb.size,hb.size,(hb.alloc hb.size _).alloc (by have:=hb.size;simp;omega) _⟩
theorem Oq {g:Nat}{z:Value}(hg:Bk w2 g 49 #[z])(hgw:w.heap.size<=g):Dz w n m cs es (.returned (.func (.func 69) #[] #[.pointer (some ⟨g,0,none⟩),.pointer (some ⟨w2.heap.size,0,none⟩)])) ((w2.setCell ⟨g,0,none⟩ v).alloc (.cells #[u] 22)):=by
 have hs:(w2.setCell ⟨g,0,none⟩ v).heap.size=w2.heap.size:=by simp
 have hk:=bk1 (w2.setCell ⟨g,0,none⟩ v) u 22;rw[hs] at hk;exact⟨v,u,_,_,rfl,ownsRow_base ((fB h1 hg (by decide) 0 v).alloc _) hb1,ownsRow_base ((fB h2 hg (by decide) 0 v).alloc _) hb2,(hg.set 0 v).alloc _,hk,hgw,hb.size,(hb.setCell hgw _).alloc (by rw[hs];exact hb.size) _⟩
theorem NY {g:Nat}{z:Value}(hg:Bk w2 g 22 #[z])(hgw:w.heap.size<=g):Dz w n m cs es (.returned (.func (.func 69) #[] #[.pointer (some ⟨w2.heap.size,0,none⟩),.pointer (some ⟨g,0,none⟩)])) ((w2.setCell ⟨g,0,none⟩ u).alloc (.cells #[v] 49)):=by
 have hs:(w2.setCell ⟨g,0,none⟩ u).heap.size=w2.heap.size:=by simp
 have hk:=bk1 (w2.setCell ⟨g,0,none⟩ u) v 49;rw[hs] at hk;exact⟨v,u,_,_,rfl,ownsRow_base ((fB h1 hg (by decide) 0 u).alloc _) hb1,ownsRow_base ((fB h2 hg (by decide) 0 u).alloc _) hb2,hk,(hg.set 0 u).alloc _,hb.size,hgw,(hb.setCell hgw _).alloc (by rw[hs];exact hb.size) _⟩
theorem yz {g h:Nat}{z z':Value}(hg:Bk w2 g 49 #[z])(hh:Bk w2 h 22 #[z'])(hgw:w.heap.size<=g)(Uj:w.heap.size<=h):Dz w n m cs es (.returned (.func (.func 69) #[] #[.pointer (some ⟨g,0,none⟩),.pointer (some ⟨h,0,none⟩)])) ((w2.setCell ⟨g,0,none⟩ v).setCell ⟨h,0,none⟩ u):=by
 have hne:g≠h:=by
  rintro rfl;have a1:w2.heap[g]? =_:=hg;have a2:w2.heap[g]? =_:=hh;rw[a1] at a2;injection a2 with a3
  injection a3 with _ a4
  exact absurd a4 (by decide)
 have hh2:=hh.far (p:=⟨g,0,none⟩) hne.symm v;exact⟨v,u,_,_,rfl,ownsRow_base (fB (fB h1 hg (by decide) 0 v) hh2 (by decide) 0 u) hb1,ownsRow_base (fB (fB h2 hg (by decide) 0 v) hh2 (by decide) 0 u) hb2,(hg.set 0 v).far (p:=⟨h,0,none⟩) hne u,hh2.set 0 u,hgw,Uj,(hb.setCell hgw _).setCell Uj _⟩
end
theorem EU (w:World)(B:Nat)(A E:Option Addr)(n c m d:Nat)(cs:List Value)(h1c:∀u∈cs,u.oneCell'=true)(es:List Int)(hA:Rd w B A n 3 cs)(hE:Rd w B E m 1 (aN es))(hB:B<=w.heap.size)(hn:n*24<=140737488355328)(hm:m*8<=140737488355328):
  Calls Tryd.prog 45 #[.agg #[.slice A n c,.slice E m d]] w (Dz w n m cs es):=by
 go_enter Tryd.func45,Tryd.ntmps45
 go_wp2_with fail
 obtain⟨W,hW⟩:∃W,w.alloc (.cells #[.slice A n c,.slice E m d] 51)=W:=⟨_,rfl⟩
 have k0:W.cell? ⟨w.heap.size,0,none⟩=some (.slice A n c):=by rw[<-hW];simp[go_sem]
 have k1:W.cell? ⟨w.heap.size,1,none⟩=some (.slice E m d):=by rw[<-hW];simp[go_sem]
 have bw:Below w.heap.size w W:=by rw[<-hW];exact(agE _ _).alloc (ai _) _
 have hs:w.heap.size<W.heap.size:=by rw[<-hW];simp
 rw[hW];clear hW;have hA1:=hA.below bw hB;have hE1:=hE.below bw hB;have hBW:B<=W.heap.size:=by omega
 have hnW:¬(W.heap.size=w.heap.size):=by omega
 have aeH:¬(W.heap.size+1=w.heap.size):=by omega
 have aeA:¬(w.heap.size=W.heap.size):=by omega
 have aec:¬(w.heap.size=W.heap.size+1):=by omega
 go_region_held3 (fun w'=>w'.cell? ⟨w.heap.size,0,none⟩=some (.slice A n c)/\w'.cell? ⟨w.heap.size,1,none⟩=some (.slice E m d))
  (first|go_keep)
  (first
   |(go_at_call 67;refine(Qe _ B A n c cs h1c (by first|exact hA1.drew|exact(hA1.alloc (by omega) _).drew|exact((hA1.alloc (by omega) _).alloc (by simp;omega) _).drew) (by first|omega|(simp;omega)) hn).mono ?_;rintro e w1 ⟨v,rfl,hown,RG⟩;have hb1:=iU RG;(have hs1:W.heap.size<=w1.heap.size:=nt (by first|exact ai _|(simp;omega)|simp) hb1.size);(have Xj:Below w.heap.size w w1:=by first|exact bw.trans (hb1.mono (by omega))|exact(bw.alloc (by omega) _).trans (hb1.mono (by simp;omega))|exact((bw.alloc (by omega) _).alloc (by simp;omega) _).trans (hb1.mono (by simp;omega)));(have hs1':w.heap.size<w1.heap.size:=agN hs hs1);(have hn1:¬(w1.heap.size=w.heap.size):=(by omega));(have hn2:¬(w1.heap.size+1=w.heap.size):=(by omega));(have hn3:¬(w.heap.size=w1.heap.size):=(by omega));(have hn4:¬(w.heap.size=w1.heap.size+1):=(by omega));(first|(have y0:=((bk1 W (.slice none 0 0) _).alloc _).below hb1;have y1:=(bk2 W _ (.slice none 0 0) _).below hb1;have q0:=ae hb1 (bK _ (bK _ k0));have q1:=ae hb1 (bK _ (bK _ k1));have hE2:=((hE1.alloc hBW _).alloc (by simp;omega) _).below hb1 (by simp;omega);have y0l:=y0.lt;have y0c:w1.cell? ⟨W.heap.size,0,none⟩=some (.slice none 0 0):=y0.cell 0;have y0f:w1.frozen? ⟨W.heap.size,0,none⟩=false:=y0.frozen 0;have y1l:=y1.lt;have y1c:w1.cell? ⟨W.heap.size+1,0,none⟩=some (.slice none 0 0):=y1.cell 0;have y1f:w1.frozen? ⟨W.heap.size+1,0,none⟩=false:=y1.frozen 0)|(have y0:=(bk1 W (.slice none 0 0) _).below hb1;have q0:=ae hb1 (bK _ k0);have q1:=ae hb1 (bK _ k1);have hE2:=(hE1.alloc hBW _).below hb1 (by simp;omega);have y0l:=y0.lt;have y0c:w1.cell? ⟨W.heap.size,0,none⟩=some (.slice none 0 0):=y0.cell 0;have y0f:w1.frozen? ⟨W.heap.size,0,none⟩=false:=y0.frozen 0)|(have q0:=ae hb1 k0;have q1:=ae hb1 k1;have hE2:=hE1.below hb1 hBW));obtain⟨A1,c1,rfl,-⟩:=Rd.afr hown)
   |(go_at_call 68;refine(Wv _ B E m d es (by first|exact hE2|exact hE2.alloc (by omega) _|exact(hE2.alloc (by omega) _).alloc (by simp;omega) _) (by first|omega|(simp;omega)) hm).mono ?_;rintro e w2 ⟨u,rfl,lJ,hb2⟩;(have hs2:w1.heap.size<=w2.heap.size:=nt (by first|exact ai _|(simp;omega)|simp) hb2.size);(have vZ:Below w.heap.size w w2:=by first|exact Xj.trans (hb2.mono (by omega))|exact(Xj.alloc (by omega) _).trans (hb2.mono (by simp;omega))|exact((Xj.alloc (by omega) _).alloc (by simp;omega) _).trans (hb2.mono (by simp;omega)));(have hs2':w.heap.size<w2.heap.size:=agN hs1' hs2);(have hm1:¬(w2.heap.size=w.heap.size):=(by omega));(have hm2:¬(w2.heap.size+1=w.heap.size):=(by omega));(have aX:¬(w.heap.size=w2.heap.size):=(by omega));(have hm4:¬(w.heap.size=w2.heap.size+1):=(by omega));(first|(have x0:=((bk1 w1 (.slice none 0 0) _).alloc _).below hb2;have x1:=(bk2 w1 _ (.slice none 0 0) _).below hb2;have hown2:=own_below ((hown.alloc _).alloc _) hb2;have r0:=ae hb2 (bK _ (bK _ q0));have r1:=ae hb2 (bK _ (bK _ q1));have x0l:=x0.lt;have x0c:w2.cell? ⟨w1.heap.size,0,none⟩=some (.slice none 0 0):=x0.cell 0;have x0f:w2.frozen? ⟨w1.heap.size,0,none⟩=false:=x0.frozen 0;have x1l:=x1.lt;have x1c:w2.cell? ⟨w1.heap.size+1,0,none⟩=some (.slice none 0 0):=x1.cell 0;have x1f:w2.frozen? ⟨w1.heap.size+1,0,none⟩=false:=x1.frozen 0)|(have x0:=(bk1 w1 (.slice none 0 0) _).below hb2;have hown2:=own_below (hown.alloc _) hb2;have r0:=ae hb2 (bK _ q0);have r1:=ae hb2 (bK _ q1);have x2:=(y0.alloc _).below hb2;have x0l:=x0.lt;have x0c:w2.cell? ⟨w1.heap.size,0,none⟩=some (.slice none 0 0):=x0.cell 0;have x0f:w2.frozen? ⟨w1.heap.size,0,none⟩=false:=x0.frozen 0;have x2l:=x2.lt;have x2c:w2.cell? ⟨W.heap.size,0,none⟩=some (.slice none 0 0):=x2.cell 0;have x2f:w2.frozen? ⟨W.heap.size,0,none⟩=false:=x2.frozen 0)|(have x0:=(bk1 w1 (.slice none 0 0) _).below hb2;have hown2:=own_below (hown.alloc _) hb2;have r0:=ae hb2 (bK _ q0);have r1:=ae hb2 (bK _ q1);have x0l:=x0.lt;have x0c:w2.cell? ⟨w1.heap.size,0,none⟩=some (.slice none 0 0):=x0.cell 0;have x0f:w2.frozen? ⟨w1.heap.size,0,none⟩=false:=x0.frozen 0)|(have hown2:=own_below hown hb2;have r0:=ae hb2 q0;have r1:=ae hb2 q1;have x2:=y0.below hb2;have x3:=y1.below hb2;have x2l:=x2.lt;have x2c:w2.cell? ⟨W.heap.size,0,none⟩=some (.slice none 0 0):=x2.cell 0;have x2f:w2.frozen? ⟨W.heap.size,0,none⟩=false:=x2.frozen 0;have x3l:=x3.lt;have x3c:w2.cell? ⟨W.heap.size+1,0,none⟩=some (.slice none 0 0):=x3.cell 0;have x3f:w2.frozen? ⟨W.heap.size+1,0,none⟩=false:=x3.frozen 0)|(have hown2:=own_below hown hb2;have r0:=ae hb2 q0;have r1:=ae hb2 q1;have x2:=y0.below hb2;have x2l:=x2.lt;have x2c:w2.cell? ⟨W.heap.size,0,none⟩=some (.slice none 0 0):=x2.cell 0;have x2f:w2.frozen? ⟨W.heap.size,0,none⟩=false:=x2.frozen 0)|(have hown2:=own_below hown hb2;have r0:=ae hb2 q0;have r1:=ae hb2 q1));obtain⟨E1,d1,rfl,-⟩:=Rd.afr lJ))
 all_goals
  go_wp2_with fail
  go_ret
  first
   |exact YD vZ hown2 lJ (by first|omega|(simp;omega)) (by first|omega|(simp;omega))
   |exact VQ vZ hown2 lJ (by first|omega|(simp;omega)) (by first|omega|(simp;omega))
   |exact Oq vZ hown2 lJ (by first|omega|(simp;omega)) (by first|omega|(simp;omega)) x0 (by omega)
   |exact Oq vZ hown2 lJ (by first|omega|(simp;omega)) (by first|omega|(simp;omega)) x2 (by omega)
   |exact NY vZ hown2 lJ (by first|omega|(simp;omega)) (by first|omega|(simp;omega)) x0 (by omega)
   |exact NY vZ hown2 lJ (by first|omega|(simp;omega)) (by first|omega|(simp;omega)) x2 (by omega)
   |exact yz vZ hown2 lJ (by first|omega|(simp;omega)) (by first|omega|(simp;omega)) x0 x1 (by omega) (by omega)
   |exact yz vZ hown2 lJ (by first|omega|(simp;omega)) (by first|omega|(simp;omega)) x1 x0 (by omega) (by omega)
   |exact yz vZ hown2 lJ (by first|omega|(simp;omega)) (by first|omega|(simp;omega)) x0 x2 (by omega) (by omega)
   |exact yz vZ hown2 lJ (by first|omega|(simp;omega)) (by first|omega|(simp;omega)) x2 x0 (by omega) (by omega)
   |exact yz vZ hown2 lJ (by first|omega|(simp;omega)) (by first|omega|(simp;omega)) x2 x3 (by omega) (by omega)
   |exact yz vZ hown2 lJ (by first|omega|(simp;omega)) (by first|omega|(simp;omega)) x3 x2 (by omega) (by omega)
end
section
open Go.RowKit
theorem nine {w w':World}{b:Nat}{t:TypeId}{v0 v1 v2 v3 v4 v5 v6 v7 v8:Value}(h:Bk w b t #[v0,v1,v2,v3,v4,v5,v6,v7,v8])(hb:Below w.heap.size w w'):
  w'.cell? ⟨b,0,none⟩=some v0/\w'.cell? ⟨b,1,none⟩=some v1/\w'.cell? ⟨b,2,none⟩=some v2/\w'.cell? ⟨b,3,none⟩=some v3/\w'.cell? ⟨b,4,none⟩=some v4/\w'.cell? ⟨b,5,none⟩=some v5/\w'.cell? ⟨b,6,none⟩=some v6/\w'.cell? ⟨b,7,none⟩=some v7/\w'.cell? ⟨b,8,none⟩=some v8:=
 ⟨h.at hb 0 rfl,h.at hb 1 rfl,h.at hb 2 rfl,h.at hb 3 rfl,h.at hb 4 rfl,h.at hb 5 rfl,h.at hb 6 rfl,h.at hb 7 rfl,h.at hb 8 rfl⟩
structure afX (n m:Nat)(g:aeS):Prop where
 name:nameB g.name=true
 adv:N9 g.advance
 pts:g.points.length<=200/\∀p∈g.points,N9 p.x/\N9 p.y
 ends:g.ends.length<=40/\gU 0 g.ends g.points.length
 parts:g.parts.length<=8/\∀p∈g.parts,In n p.aeT/\N9 p.x/\N9 p.y
 anch:g.anchors.length<=16/\∀a∈g.anchors,1<=a.kind/\a.kind<=4/\N9 a.cls/\N9 a.x/\N9 a.y
 ae3:g.deltas.length<=400/\∀d∈g.deltas,In m d.region/\(-1<=d.point/\d.point<g.points.length)/\N9 d.x/\N9 d.y
 hint:g.hint.length<=200/\jr g.hint
structure afZ (g:aeS):Prop where
 name:Big g.name.length
 pts:Big g.points.length
 ends:Big g.ends.length
 parts:Big g.parts.length
 anch:Big g.anchors.length
 ae3:Big g.deltas.length
 hint:Big g.hint.length
theorem Ot (w:World)(f:Fnt)(A1 A2 A3 A4 A5 A6 A7 A8:Option Addr)(c1 c2 c3 c4 c5 c6 c7 c8:Nat)(k:Nat)(hF:FIn ⟨A1,c1,A2,c2,A3,c3,A4,c4,A5,c5,A6,c6,A7,c7,A8,c8⟩ f w)(g:aeS)(hg:f.aeN[k]? =some g)(hk:k<f.aeN.length)(hbn:Big f.aeN.length)(hbr:Big f.regions.length)(hB:afZ g):Calls Tryd.prog 75 #[.agg #[.int .i64 f.unit,.slice A1 f.aeN.length c1,.slice A2 f.chars.length c2,.slice A3 f.aeO.length c3,.slice A4 f.features.length c4,.slice A5 f.aeP.length c5,.slice A6 f.regions.length c6,.slice A7 f.funcs.length c7,.slice A8 f.cvt.length c8],.int .i64 k] w (OkE w (afX f.aeN.length f.regions.length g/\∀j x,j<k->f.aeN[j]? =some x->x.name≠g.name)):=by
 obtain⟨P,HP⟩:∃P:Prop,Hid (P=(afX f.aeN.length f.regions.length g/\∀j x,j<k->f.aeN[j]? =some x->x.name≠g.name)):=⟨_,rfl⟩
 rw[<-HP.out];unfold Big at hbn;have HG:=hd0 hg;obtain⟨Wf,hWf,hbf,bD⟩:=aB w 32 #[.int .i64 f.unit,.slice A1 f.aeN.length c1,.slice A2 f.chars.length c2,.slice A3 f.aeO.length c3,.slice A4 f.features.length c4,.slice A5 f.aeP.length c5,.slice A6 f.regions.length c6,.slice A7 f.funcs.length c7,.slice A8 f.cvt.length c8];have aS:Hid (Below w.heap.size w Wf):=hd0 hbf;have iM:=hd0 bD;have jK:=hd0 (hF.below hbf);obtain⟨b,o,x,B3,d3,B4,d4,B5,d5,B6,d6,B7,d7,B8,d8,hA1,hb,hx,q0,q1,q2,q3,q4,q5,q6,q7,q8,r1,s3,s4,s5,s6,s7,s8⟩:=jK.out.aeN.aeT (k:=k) hk;simp only at hA1;subst hA1;obtain rfl:x=g:=by have:=hx.out;rw[HG.out] at this;exact(Option.some.inj this).symm
 obtain⟨Wg,kZ,hbg,hkg⟩:=aB Wf 57 #[.string ⟨x.name.toArray⟩,.int .i64 x.advance,.bool x.mark,.slice B3 x.points.length d3,.slice B4 x.ends.length d4,.slice B5 x.parts.length d5,.slice B6 x.anchors.length d6,.slice B7 x.deltas.length d7,.slice B8 x.hint.length d8];have bV:Hid (Below w.heap.size w Wg):=hd0 (aS.out.trans (hbg.mono aS.out.size));have aj:=hd0 hkg;have aG:Hid (Bk Wg w.heap.size 32 #[.int .i64 f.unit,.slice (some ⟨b,o,none⟩) f.aeN.length c1,.slice A2 f.chars.length c2,.slice A3 f.aeO.length c3,.slice A4 f.features.length c4,.slice A5 f.aeP.length c5,.slice A6 f.regions.length c6,.slice A7 f.funcs.length c7,.slice A8 f.cvt.length c8]):=hd0 (Bk.bel bD hbg);have hzg:=bV.out.size;have k1:=bD.cell 1;have m0:=hkg.cell 0;replace s3:=s3.lw PtR.ok hbg;replace s4:=s4.lw aeQ.ok hbg;replace s5:=s5.lw afg.ok hbg;replace s6:=s6.lw ae6.ok hbg;replace s7:=s7.lw afc.ok hbg;replace s8:=s8.lw ae9.ok hbg;have H3:=hd0 s3;have H4:=hd0 s4;have H5:=hd0 s5;have H6:=hd0 s6;have H7:=hd0 s7;have H8:=hd0 s8;have HGl:=hd0 (jK.out.aeN.lw aeU.ok hbg);clear hb r1 s3 s4 s5 s6 s7 s8 hF hg hx;have bn1:decide ((k:Int)<0)=false:=decide_eq_false (by omega);have bn2:decide ((f.aeN.length:Int)<=(k:Int))=false:=decide_eq_false (by omega);go_enter Tryd.func75,Tryd.ntmps75
 go_wp2_with fail
 refine(FZ _ x.name hB.name).mono ?_;rintro e w4 ⟨bn,rfl,QB,hb4⟩;have HB4:Hid (Below Wg.heap.size Wg w4):=hd0 hb4;have E4:Hid (Below w.heap.size w w4):=hd0 (bV.out.trans (hb4.mono hzg))
 try clear hWf
 try clear kZ
 clear k1 m0 q0 q1 q2 q3 q4 q5 q6 q7 q8 hbf bD hbg hkg;cases bn
 ·clear QB hb4;go_wp2_with fail
  go_ret
  exact OkE.bad _ (by decide) E4.out
 have HN:=hd0 (QB rfl);clear QB hb4;go_wp2_with fail
 go_loopw [7] (fun i wr=>∃j:Nat,j<=k/\i= .int .i64 j/\Hid (∀q y,q<j->f.aeN[q]? =some y->y.name≠x.name)/\Below Wg.heap.size Wg wr) (fun i _=>k - (intOf i).toNat)
 case atStart=>exact⟨0,by omega,rfl,hd0 (fun q y h=>by omega),HB4.out⟩
 case round=>
  obtain⟨w5,rfl⟩:∃x,x=wr:=⟨_,rfl⟩
  obtain⟨j,hj,rfl,hne,hb5⟩:=hrel;have gq:Hid (Below Wg.heap.size Wg w5):=hd0 hb5;have E5:Hid (Below w.heap.size w w5):=hd0 (bV.out.trans (hb5.mono hzg));have x1:=aG.out.at hb5 1 rfl;have y0:=aj.out.at hb5 0 rfl;by_cases hjk:j<k
  ·obtain⟨b2,o2,z,Z3,t3,Z4,t4,Z5,t5,Z6,t6,Z7,t7,Z8,t8,e2,hb2,hz,v0,-⟩:=(HGl.out.lw aeU.ok hb5).aeT (k:=j) (by omega);obtain⟨rfl,rfl⟩:b=b2/\o=o2:=by simpa using e2
   clear hb2 e2 hb5;by_cases hnm:z.name=x.name
   ·have hq2:(z.name==x.name)=true:=by rw[hnm];simp
    clear hnm;go_wp2_with fail
    go_quiet (fail)
    go_wp2_with fail
    go_ret
    exact OkE.bad _ (by decide) (below_drewN E5.out _)
   have hq2:(z.name==x.name)=false:=by simpa using hnm
   have hne2:Hid (∀q y,q<j+1->f.aeN[q]? =some y->y.name≠x.name):=hd0 fun q y hq hy=>by
    by_cases hqj:q=j
    ·subst hqj;rw[hz.out] at hy;exact Option.some.inj hy ▸ hnm
    exact hne.out q y (by omega) hy
   clear hnm hz;go_wp2_with fail
   go_quiet (fail)
   go_wp2_with fail
   go_roundw
   case rel=>exact⟨j+1,by omega,by simp,hne2,below_drewN gq.out _⟩
   case measure=>simp[intOf];omega
  obtain rfl:j=k:=by omega
  have y1:=aj.out.at hb5 1 rfl;have y3:=aj.out.at hb5 3 rfl;have y4:=aj.out.at hb5 4 rfl;clear hb5 y0 x1;by_cases h1:x.advance<0
  ·have bh1:decide (x.advance<0)=true:=decide_eq_true h1;go_wp2_with fail
   go_ret
   exact OkE.bad _ (by decide) E5.out
  have bh1:decide (x.advance<0)=false:=decide_eq_false h1;by_cases h2:16384<x.advance
  ·have kF:decide (16384<x.advance)=true:=decide_eq_true h2;go_wp2_with fail
   go_ret
   exact OkE.bad _ (by decide) E5.out
  have kF:decide (16384<x.advance)=false:=decide_eq_false h2;by_cases h3:200<x.points.length
  ·have jJ:decide ((200:Int)<x.points.length)=true:=decide_eq_true (by omega);go_wp2_with fail
   go_ret
   exact OkE.bad _ (by decide) E5.out
  have jJ:decide ((200:Int)<x.points.length)=false:=decide_eq_false (by omega);by_cases h4:40<x.ends.length
  ·have qX:decide ((40:Int)<x.ends.length)=true:=decide_eq_true (by omega);go_wp2_with fail
   go_ret
   exact OkE.bad _ (by decide) E5.out
  have qX:decide ((40:Int)<x.ends.length)=false:=decide_eq_false (by omega);go_wp2_with fail
  go_loopw [8] (fun i wr=>∃q:Nat,q<=x.points.length/\i= .int .i64 q/\Hid (Up x.points q (fun p=>N9 p.x/\N9 p.y))/\Below Wg.heap.size Wg wr) (fun i _=>x.points.length - (intOf i).toNat)
  case atStart=>exact⟨0,by omega,rfl,hd0 (Up.zero _ _),gq.out⟩
  case round=>
   obtain⟨w6,rfl⟩:∃x,x=wr:=⟨_,rfl⟩
   obtain⟨q,hq,rfl,hup,hb6⟩:=hrel;have dU:Hid (Below Wg.heap.size Wg w6):=hd0 hb6;have E6:Hid (Below w.heap.size w w6):=hd0 (bV.out.trans (hb6.mono hzg));clear y1 y3 y4;have y3:=aj.out.at hb6 3 rfl;have y4:=aj.out.at hb6 4 rfl;by_cases hqt:q<x.points.length
   ·obtain⟨b3,o3,p,rfl,hb3,hp,v0,v1,-,-,-⟩:=(H3.out.lw PtR.ok hb6).pt hqt;clear hb3 hb6;by_cases m1:dX p.x=false
    ·go_wp2_with (first|(go_at_call 82;refine(bZ _ _).mono ?_;rintro e w' ⟨rfl,rfl⟩))
     go_ret
     exact OkE.bad _ (by decide) E6.out
    have uy:dX p.x=true:=by simpa using m1
    by_cases m2:dX p.y=false
    ·go_wp2_with (first|(go_at_call 82;refine(bZ _ _).mono ?_;rintro e w' ⟨rfl,rfl⟩))
     go_ret
     exact OkE.bad _ (by decide) E6.out
    have AY:dX p.y=true:=by simpa using m2
    have bY:=hd0 (hup.out.snoc hp.out ⟨kz uy,kz AY⟩);go_wp2_with (first|(go_at_call 82;refine(bZ _ _).mono ?_;rintro e w' ⟨rfl,rfl⟩))
    go_roundw
    case rel=>exact⟨q+1,by omega,by simp,bY,dU.out⟩
    case measure=>simp[intOf];omega
   obtain rfl:q=x.points.length:=by omega
   have HPT:=hd0 (fun p (hp:p∈x.points)=>hup.out.all p hp);have HE:=hd0 (Si w6 B3 B4 d3 d4 x.points x.ends (H4.out.lw aeQ.ok hb6) hB.pts hB.ends);clear hb6 hup;go_wp2_with fail
   refine HE.out.mono ?_;rintro e w7 ⟨be,rfl,hbe,hb7⟩;have jI:Hid (Below Wg.heap.size Wg w7):=hd0 (dU.out.trans (hb7.mono dU.out.size));have E7:Hid (Below w.heap.size w w7):=hd0 (bV.out.trans (jI.out.mono hzg));cases be
   ·clear hbe hb7 HE;go_wp2_with fail
    go_ret
    exact OkE.bad _ (by decide) E7.out
   have HEN:=hd0 (hbe rfl);clear hbe hb7 HE y3 y4;have iZ:Hid (Below Wg.heap.size Wg w7.drew):=hd0 jI.out.drew;have S7:=And.intro (nine aG.out iZ.out) (nine aj.out iZ.out);go_wp2_with fail
   go_region_held3 (fun w'=>(w'.cell? ⟨w.heap.size,0,none⟩=some (.int .i64 f.unit)/\w'.cell? ⟨w.heap.size,1,none⟩=some (.slice (some ⟨b,o,none⟩) f.aeN.length c1)/\w'.cell? ⟨w.heap.size,2,none⟩=some (.slice A2 f.chars.length c2)/\w'.cell? ⟨w.heap.size,3,none⟩=some (.slice A3 f.aeO.length c3)/\w'.cell? ⟨w.heap.size,4,none⟩=some (.slice A4 f.features.length c4)/\w'.cell? ⟨w.heap.size,5,none⟩=some (.slice A5 f.aeP.length c5)/\w'.cell? ⟨w.heap.size,6,none⟩=some (.slice A6 f.regions.length c6)/\w'.cell? ⟨w.heap.size,7,none⟩=some (.slice A7 f.funcs.length c7)/\w'.cell? ⟨w.heap.size,8,none⟩=some (.slice A8 f.cvt.length c8))/\(w'.cell? ⟨Wf.heap.size,0,none⟩=some (.string ⟨x.name.toArray⟩)/\w'.cell? ⟨Wf.heap.size,1,none⟩=some (.int .i64 x.advance)/\w'.cell? ⟨Wf.heap.size,2,none⟩=some (.bool x.mark)/\w'.cell? ⟨Wf.heap.size,3,none⟩=some (.slice B3 x.points.length d3)/\w'.cell? ⟨Wf.heap.size,4,none⟩=some (.slice B4 x.ends.length d4)/\w'.cell? ⟨Wf.heap.size,5,none⟩=some (.slice B5 x.parts.length d5)/\w'.cell? ⟨Wf.heap.size,6,none⟩=some (.slice B6 x.anchors.length d6)/\w'.cell? ⟨Wf.heap.size,7,none⟩=some (.slice B7 x.deltas.length d7)/\w'.cell? ⟨Wf.heap.size,8,none⟩=some (.slice B8 x.hint.length d8)))
    (first
     |with_reducible exact S7
     |with_reducible exact S8
     |with_reducible exact S9
     |with_reducible exact S10
     |with_reducible exact Ea
     |exact⟨nine aG.out (tV.out.alloc z11 _),nine aj.out (tV.out.alloc z11 _)⟩
     |with_reducible exact Ed)
    (first
     |(go_at_call 95;refine(Ph w7.drew f (some ⟨b,o,none⟩) A2 A3 A4 A5 A6 A7 A8 c1 c2 c3 c4 c5 c6 c7 c8 x B3 B4 B5 B6 B7 B8 d3 d4 d5 d6 d7 d8 (H5.out.lw afg.ok iZ.out) hB.parts hbn).mono ?_;rintro e w8 ⟨r8,rfl,vW,hb8⟩;have lg:Hid (Below Wg.heap.size Wg w8):=hd0 (iZ.out.trans (hb8.mono iZ.out.size));have S8:=And.intro (nine aG.out lg.out) (nine aj.out lg.out);have z8:=lg.out.size;clear hb8)
     |(go_at_call 96;refine(Jd w8 x B3 B4 B5 B6 B7 B8 d3 d4 d5 d6 d7 d8 (H6.out.lw ae6.ok lg.out) hB.anch).mono ?_;rintro e w9 ⟨r9,rfl,zI,jO⟩;have fM:Hid (Below Wg.heap.size Wg w9):=hd0 (lg.out.trans (jO.mono lg.out.size));have S9:=And.intro (nine aG.out fM.out) (nine aj.out fM.out);have z9:=fM.out.size;clear jO)
     |(go_at_call 97;refine(Ld w9 f (some ⟨b,o,none⟩) A2 A3 A4 A5 A6 A7 A8 c1 c2 c3 c4 c5 c6 c7 c8 x B3 B4 B5 B6 B7 B8 d3 d4 d5 d6 d7 d8 (H7.out.lw afc.ok fM.out) hB.ae3 hbr hB.pts).mono ?_;rintro e w10 ⟨r10,rfl,Yo,Zd⟩;have tN:Hid (Below Wg.heap.size Wg w10):=hd0 (fM.out.trans (Zd.mono fM.out.size));have S10:=And.intro (nine aG.out tN.out) (nine aj.out tN.out);have z10:=tN.out.size;clear Zd)
     |(go_at_call 84;refine(JK w10 B8 d8 x.hint (H8.out.lw ae9.ok tN.out) hB.hint).mono ?_;rintro e BC ⟨r11,rfl,Dx,mO⟩;have tV:Hid (Below Wg.heap.size Wg BC):=hd0 (tN.out.trans (mO.mono tN.out.size));have Ea:=And.intro (nine aG.out tV.out) (nine aj.out tV.out);have z11:=tV.out.size;clear mO)
     |(go_at_call 94;refine(Tn _ BC.heap.size [r8,r9,r10,r11] (Bk.new _ _ _) rfl).mono ?_;rintro e w12 ⟨r12,rfl,Xr,YQ⟩;have oZ:Hid (Below Wg.heap.size Wg w12):=hd0 ((tV.out.alloc z11 _).trans (YQ.mono (tV.out.alloc z11 _).size));have Ed:=And.intro (nine aG.out oZ.out) (nine aj.out oZ.out);clear YQ))
   have TW:Hid (Below w.heap.size w w12):=hd0 (bV.out.trans (oZ.out.mono hzg));have HR:Hid (r12=0->P):=hd0 fun h0=>by
    have h1:=Xr h0;refine HP.out.mpr ⟨⟨HN.out,by unfold N9;omega,⟨by omega,fun p hp=>HPT.out p hp⟩,⟨by omega,HEN.out⟩,vW (h1 _ (by simp)),zI (h1 _ (by simp)),Yo (h1 _ (by simp)),Dx (h1 _ (by simp))⟩,fun j y hj hy=>hne.out j y hj hy⟩
   clear vW zI Yo Dx Xr;go_wp2_with fail
   go_ret
   exact⟨r12,rfl,HR.out,TW.out⟩
structure afS (r:ae4):Prop where
 back:Big r.back.length
 in':Big r.in'.length
 ahead:Big r.ahead.length
 out:Big r.out.length
 calls:Big r.calls.length
theorem dJ {x y:Int}(h:¬x=y):(x==y)=false:=by simpa using h
theorem eU {x y:Int}(h:¬x=y):(x !=y)=true:=by simpa using h
theorem Qh (w:World)(kd:Int)(r:ae4)(C0 C1 C2 C3 C4:Option Addr)(e0 e1 e2 e3 e4:Nat)(hB:afS r):Calls Tryd.prog 98 #[.int .i64 kd,.agg #[.slice C0 r.back.length e0,.slice C1 r.in'.length e1,.slice C2 r.ahead.length e2,.slice C3 r.out.length e3,.slice C4 r.calls.length e4,.int .i64 r.x]] w (OkE w ((r.back.length<=6/\r.in'.length<=6/\r.ahead.length<=6)/\r.in'≠[]/\(kd=1\/kd=5->r.in'.length=1))):=by
 obtain⟨P,HP⟩:∃P:Prop,Hid (P=((r.back.length<=6/\r.in'.length<=6/\r.ahead.length<=6)/\r.in'≠[]/\(kd=1\/kd=5->r.in'.length=1))):=⟨_,rfl⟩
 rw[<-HP.out];obtain⟨b0,b1,b2,b3,b4⟩:=hB;unfold Big at b0 b1 b2 b3 b4;obtain⟨Wr,jW,hbr,hkr⟩:=aB w 78 #[.slice C0 r.back.length e0,.slice C1 r.in'.length e1,.slice C2 r.ahead.length e2,.slice C3 r.out.length e3,.slice C4 r.calls.length e4,.int .i64 r.x];have jH:Hid (Below w.heap.size w Wr):=hd0 hbr;have qj:=hd0 hkr;have k0:=hkr.cell 0;have k1:=hkr.cell 1;have k2:=hkr.cell 2;clear hbr hkr;go_enter Tryd.func98,Tryd.ntmps98
 by_cases h1:6<r.back.length
 ·have bh1:decide ((6:Int)<r.back.length)=true:=decide_eq_true (by omega);go_wp2_with fail
  all_goals
   go_ret
   exact OkE.bad _ (by decide) jH.out
 have bh1:decide ((6:Int)<r.back.length)=false:=decide_eq_false (by omega);by_cases h2:6<r.in'.length
 ·have kF:decide ((6:Int)<r.in'.length)=true:=decide_eq_true (by omega);go_wp2_with fail
  all_goals
   go_ret
   exact OkE.bad _ (by decide) jH.out
 have kF:decide ((6:Int)<r.in'.length)=false:=decide_eq_false (by omega);by_cases h3:6<r.ahead.length
 ·have jJ:decide ((6:Int)<r.ahead.length)=true:=decide_eq_true (by omega);go_wp2_with fail
  all_goals
   go_ret
   exact OkE.bad _ (by decide) jH.out
 have jJ:decide ((6:Int)<r.ahead.length)=false:=decide_eq_false (by omega);have e1:(kd==1)=false\/kd=1:=by by_cases h:kd=1;exact .inr h;exact .inl (dJ h)
 have e2:(kd==2)=false\/kd=2:=by by_cases h:kd=2;exact .inr h;exact .inl (dJ h)
 have e5:(kd==5)=false\/kd=5:=by by_cases h:kd=5;exact .inr h;exact .inl (dJ h)
 have e6:(kd==6)=false\/kd=6:=by by_cases h:kd=6;exact .inr h;exact .inl (dJ h)
 rcases e1 with e1|hk1
 ·rcases e2 with e2|hk2
  ·rcases e5 with e5|hk5
   ·by_cases hin:0<r.in'.length
    ·have q1:((r.in'.length:Int)==0)=false:=dJ (by omega);have hg:P:=HP.out.mpr ⟨⟨by omega,by omega,by omega⟩,(by intro h0;rw[h0] at hin;simp at hin),fun h=>by rcases h with rfl|rfl;exact absurd e1 (by decide);exact absurd e5 (by decide)⟩;rcases e6 with e6|hk6
     ·go_wp2_with fail
      go_ret
      exact OkE.good hg jH.out
     subst hk6;go_wp2_with fail
     all_goals
      go_ret
      first
       |exact OkE.good hg jH.out
       |exact OkE.bad _ (by decide) jH.out
    have q1:((r.in'.length:Int)==0)=true:=by rw[show r.in'.length=0 by omega];rfl
    go_wp2_with fail
    go_ret
    exact OkE.bad _ (by decide) jH.out
   clear e1 e2 e6;subst hk5;by_cases hin1:r.in'.length=1
   ·have hin:0<r.in'.length:=by omega
    have hg:P:=HP.out.mpr ⟨⟨by omega,by omega,by omega⟩,(by intro h0;rw[h0] at hin;simp at hin),(by omega)⟩;have q1:((r.in'.length:Int)==0)=false:=dJ (by omega);have q2:((r.in'.length:Int) !=1)=false:=by rw[hin1];rfl
    clear hin1;go_wp2_with fail
    go_ret
    exact OkE.good hg jH.out
   have q2:((r.in'.length:Int) !=1)=true:=eU (by omega);go_wp2_with fail
   all_goals
    go_ret
    exact OkE.bad _ (by decide) jH.out
  clear e1 e5 e6;subst hk2;by_cases hin1:r.in'.length=1
  ·have hin:0<r.in'.length:=by omega
   have hg:P:=HP.out.mpr ⟨⟨by omega,by omega,by omega⟩,(by intro h0;rw[h0] at hin;simp at hin),(by omega)⟩;have q1:((r.in'.length:Int)==0)=false:=dJ (by omega);have q2:((r.in'.length:Int) !=1)=false:=by rw[hin1];rfl
   clear hin1;go_wp2_with fail
   go_ret
   exact OkE.good hg jH.out
  have q2:((r.in'.length:Int) !=1)=true:=eU (by omega);go_wp2_with fail
  all_goals
   go_ret
   exact OkE.bad _ (by decide) jH.out
 clear e2 e5 e6;subst hk1;by_cases hin1:r.in'.length=1
 ·have hin:0<r.in'.length:=by omega
  have hg:P:=HP.out.mpr ⟨⟨by omega,by omega,by omega⟩,(by intro h0;rw[h0] at hin;simp at hin),(by omega)⟩;have q1:((r.in'.length:Int)==0)=false:=dJ (by omega);have q2:((r.in'.length:Int) !=1)=false:=by rw[hin1];rfl
  clear hin1;go_wp2_with fail
  go_ret
  exact OkE.good hg jH.out
 have q2:((r.in'.length:Int) !=1)=true:=eU (by omega);go_wp2_with fail
 all_goals
  go_ret
  exact OkE.bad _ (by decide) jH.out
end
end Go.Proofs.YtkijckccfookeaaDoor
