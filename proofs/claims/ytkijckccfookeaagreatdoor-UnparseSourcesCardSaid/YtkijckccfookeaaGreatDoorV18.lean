/- Lemmas. -/
import Derived.Test.YtkijckccfookeaaGreatDoorV17
set_option linter.unusedVariables false
set_option linter.unusedSimpArgs false
set_option maxRecDepth 100000
set_option maxHeartbeats 32000000
namespace Go.Proofs.YtkijckccfookeaaGreatDoor
section
open Go.RowKit Go.Shelf
attribute [local go_sem] Oper.semAt_some
theorem ab1:(Tryz.prog.info? 139).map (fun i=>(i.zero,i.size,i.bytes))=some (some (.agg #[.int .i64 0,.int .i64 0,.bool false]),3,24):=by kernel_rfl
theorem info3:(Tryz.prog.info? 3).map (fun i=>(i.zero,i.size,i.bytes))=some (some (.int .i64 0),1,8):=by kernel_rfl
theorem WU (w:World)(a:Option Addr)(n c:Nat):(binOp .eql 51 (.slice a n c) (.slice none 0 0)).run Tryz.prog w= .ok (.bool a.isNone) w:=Lib.run_eql_slice_nil w _ _ a n c 0 0 Tryz.underlying51
theorem Vy (w:World)(a:Option Addr)(n c:Nat):(binOp .eql 22 (.slice a n c) (.slice none 0 0)).run Tryz.prog w= .ok (.bool a.isNone) w:=Lib.run_eql_slice_nil w _ _ a n c 0 0 Tryz.underlying22
theorem Ub (w:World)(B:Nat)(A:Option Addr)(n c:Nat)(cs:List Value)(h1c:∀u∈cs,u.oneCell'=true)(hA:Rd w B A n 3 cs)(hB:B<=w.heap.size)(hn:n*24<=140737488355328):
  Calls Tryz.prog 142 #[.slice A n c] w fun e w'=>∃v,e= .returned v/\w'.ownsRow w.heap.size 139 3 v n cs/\Below w.heap.size w w':=by
 obtain⟨i0,hi0,hz0,hz1,hz2⟩:=info_parts ab1;have hnil:=WU;rcases A with _|ad
 ·have h0:n=0:=by
   rcases Nat.eq_zero_or_pos n with h|h
   ·exact h
   obtain⟨b,o,e,_⟩:=hA.2 h;cases e
  have hc:cs=[]:=List.eq_nil_of_length_eq_zero (by rw[hA.1,h0]);have H:=hd0 h0;have Hc:=hd0 hc;clear h0 hc;go_enter Tryz.func142,Tryz.ntmps142
  go_wp2;go_ret
  refine⟨.slice none 0 0,rfl,?_,akl _ _⟩;rw[H.out,Hc.out];exact World.ownsRow_nil _ _ _ _
 go_enter Tryz.func142,Tryz.ntmps142
 go_wp2_with (at_builtin;refine fP _ rfl (.tmp 5) (.tmp 6) 51 rfl w.heap.size 139 i0 _ 3 24 Tryz.underlying51 hi0 hz0 hz1 hz2 rfl (by decide) (.slice (some ⟨w.heap.size,0,none⟩) 0 0) 0 [] rfl (World.ownsRow_made w #[] 0 (nr _) (by simp[maxLen]) rfl) B (some ad) n c cs rfl (hA.alloc hB _) (h1c) (by simp only[maxLen];omega) (by omega) (by simp) ?_;intro v1 w1 hown1 hg1 hat1)
 go_ret
 refine⟨v1,rfl,by simpa using hown1,((akl _ _).alloc (nr _) _).grown hg1 (by simp) (by simp[Value.ownBlock])⟩
theorem abX (w:World)(B:Nat)(A:Option Addr)(n c:Nat)(ps:List Int)(hA:Rd w B A n 1 (aW ps))(hB:B<=w.heap.size)(hn:n*8<=140737488355328):
  Calls Tryz.prog 143 #[.slice A n c] w fun e w'=>∃v,e= .returned v/\w'.ownsRow w.heap.size 3 1 v n (aW ps)/\Below w.heap.size w w':=by
 obtain⟨i0,hi0,hz0,hz1,hz2⟩:=info_parts info3;have hnil:=Vy;rcases A with _|ad
 ·have h0:n=0:=by
   rcases Nat.eq_zero_or_pos n with h|h
   ·exact h
   obtain⟨b,o,e,_⟩:=hA.2 h;cases e
  have hc:aW ps=[]:=List.eq_nil_of_length_eq_zero (by rw[hA.1,h0]);have H:=hd0 h0;have Hc:=hd0 hc;clear h0 hc;go_enter Tryz.func143,Tryz.ntmps143
  go_wp2;go_ret
  refine⟨.slice none 0 0,rfl,?_,akl _ _⟩;rw[H.out,Hc.out];exact World.ownsRow_nil _ _ _ _
 go_enter Tryz.func143,Tryz.ntmps143
 go_wp2_with (at_builtin;refine fP _ rfl (.tmp 5) (.tmp 6) 22 rfl w.heap.size 3 i0 _ 1 8 Tryz.underlying22 hi0 hz0 hz1 hz2 rfl (by decide) (.slice (some ⟨w.heap.size,0,none⟩) 0 0) 0 [] rfl (World.ownsRow_made w #[] 0 (nr _) (by simp[maxLen]) rfl) B (some ad) n c (aW ps) rfl (hA.alloc hB _) (aav ps) (by simp only[maxLen];omega) (by omega) (by simp) ?_;intro v1 w1 hown1 hg1 hat1)
 go_ret
 refine⟨v1,rfl,by simpa using hown1,((akl _ _).alloc (nr _) _).grown hg1 (by simp) (by simp[Value.ownBlock])⟩
def nX (len:Nat):Nat->Nat->List Int->List (Nat×Nat×Nat)
 |_,_,[]=>[]
 |k,f,e::es=>if(f:Int)<=e/\e<(len:Int) then(k,f,e.toNat)::nX len (k+1) (e.toNat+1) es else []
theorem JR (A E:Option Addr)(n c m d:Nat)(w:World):Calls Tryz.prog 145 #[.slice A n c,.slice E m d] w fun x w'=>x= .returned (.func (.func 177) #[] #[.pointer (some ⟨w.heap.size+1,0,none⟩),.pointer (some ⟨w.heap.size,0,none⟩)])/\
  w'=(w.alloc (.cells #[.slice A n c] 51)).alloc (.cells #[.slice E m d] 22):=by
 go_enter Tryz.func145,Tryz.ntmps145
 go_wp2;go_ret
 exact⟨by simp,rfl⟩
theorem bU {w:World}(o:Obj){p:Addr}{v:Value}(h:w.cell? p=some v):(w.alloc o).cell? p=some v:=ae ((akl _ _).alloc (nr _) o) h
theorem bk1 (w:World)(v:Value)(t:TypeId):Bk (w.alloc (.cells #[v] t)) w.heap.size t #[v]:=heap_alloc_new w _
theorem bk2 (w:World)(o:Obj)(v:Value)(t:TypeId):Bk ((w.alloc o).alloc (.cells #[v] t)) (w.heap.size+1) t #[v]:=by
 have h:=bk1 (w.alloc o) v t
 rwa [World.size_alloc] at h
theorem Bk.below {w w':World}{g:Nat}{t:TypeId}{cs:Array Value}(h:Bk w g t cs)(hb:Below w.heap.size w w'):Bk w' g t cs:=(hb.block g h.lt).trans h
def FK (w:World)(n m:Nat)(cs:List Value)(es:List Int)(e:Ending)(w':World):Prop:=∃v u pb eb,e= .returned (.func (.func 144) #[] #[.pointer (some ⟨pb,0,none⟩),.pointer (some ⟨eb,0,none⟩)])/\w'.ownsRow w.heap.size 139 3 v n cs/\w'.ownsRow w.heap.size 3 1 u m (aW es)/\Bk w' pb 51 #[v]/\Bk w' eb 22 #[u]/\w.heap.size<=pb/\w.heap.size<=eb/\Below w.heap.size w w'
theorem gQ {w:World}{base:Nat}{e t:TypeId}{s:Nat}{v:Value}{n:Nat}{xs:List Value}(h:w.ownsRow base e s v n xs){g:Nat}{cs:Array Value}(hb:Bk w g t cs)(hne:e≠t)(i:Nat)(u:Value):(w.setCell ⟨g,i,none⟩ u).ownsRow base e s v n xs:=by
 refine h.kept (row:=some g) (dL (p:=⟨g,i,none⟩) (World.grownBy.refl _ _) (.inl rfl) _) (.inr (fun e'=> ?_));obtain⟨cur,hk⟩:=oO h g e';have h1:w.heap[g]? =_:=hb;have h2:w.heap[g]? =_:=hk;rw[h1] at h2;injection h2 with h3
 injection h3 with _ h4
 exact hne h4.symm
section
variable {w w2:World} {n m b1 b2:Nat} {cs:List Value} {es:List Int} {v u:Value} (hb:Below w.heap.size w w2) (h1:w2.ownsRow b1 139 3 v n cs) (h2:w2.ownsRow b2 3 1 u m (aW es)) (hb1:w.heap.size<=b1) (hb2:w.heap.size<=b2)
include hb h1 h2 hb1 hb2
theorem aaM:FK w n m cs es (.returned (.func (.func 144) #[] #[.pointer (some ⟨w2.heap.size,0,none⟩),.pointer (some ⟨w2.heap.size+1,0,none⟩)])) ((w2.alloc (.cells #[v] 51)).alloc (.cells #[u] 22)):=⟨v,u,_,_,rfl,ownsRow_base ((h1.alloc _).alloc _) hb1,ownsRow_base ((h2.alloc _).alloc _) hb2,(bk1 _ _ _).alloc _,bk2 _ _ _ _,hb.size,Nat.le_succ_of_le hb.size,(hb.alloc hb.size _).alloc (by have:=hb.size;simp;omega) _⟩
theorem abK:FK w n m cs es (.returned (.func (.func 144) #[] #[.pointer (some ⟨w2.heap.size+1,0,none⟩),.pointer (some ⟨w2.heap.size,0,none⟩)])) ((w2.alloc (.cells #[u] 22)).alloc (.cells #[v] 51)):=⟨v,u,_,_,rfl,ownsRow_base ((h1.alloc _).alloc _) hb1,ownsRow_base ((h2.alloc _).alloc _) hb2,bk2 _ _ _ _,(bk1 _ _ _).alloc _,Nat.le_succ_of_le hb.size,hb.size,(hb.alloc hb.size _).alloc (by have:=hb.size;simp;omega) _⟩
theorem TA {g:Nat}{z:Value}(hg:Bk w2 g 51 #[z])(hgw:w.heap.size<=g):FK w n m cs es (.returned (.func (.func 144) #[] #[.pointer (some ⟨g,0,none⟩),.pointer (some ⟨w2.heap.size,0,none⟩)])) ((w2.setCell ⟨g,0,none⟩ v).alloc (.cells #[u] 22)):=by
 have hs:(w2.setCell ⟨g,0,none⟩ v).heap.size=w2.heap.size:=by simp
 have hk:=bk1 (w2.setCell ⟨g,0,none⟩ v) u 22;rw[hs] at hk;exact⟨v,u,_,_,rfl,ownsRow_base ((gQ h1 hg (by decide) 0 v).alloc _) hb1,ownsRow_base ((gQ h2 hg (by decide) 0 v).alloc _) hb2,(hg.set 0 v).alloc _,hk,hgw,hb.size,(hb.setCell hgw _).alloc (by rw[hs];exact hb.size) _⟩
theorem Sv {g:Nat}{z:Value}(hg:Bk w2 g 22 #[z])(hgw:w.heap.size<=g):FK w n m cs es (.returned (.func (.func 144) #[] #[.pointer (some ⟨w2.heap.size,0,none⟩),.pointer (some ⟨g,0,none⟩)])) ((w2.setCell ⟨g,0,none⟩ u).alloc (.cells #[v] 51)):=by
 have hs:(w2.setCell ⟨g,0,none⟩ u).heap.size=w2.heap.size:=by simp
 have hk:=bk1 (w2.setCell ⟨g,0,none⟩ u) v 51;rw[hs] at hk;exact⟨v,u,_,_,rfl,ownsRow_base ((gQ h1 hg (by decide) 0 u).alloc _) hb1,ownsRow_base ((gQ h2 hg (by decide) 0 u).alloc _) hb2,hk,(hg.set 0 u).alloc _,hb.size,hgw,(hb.setCell hgw _).alloc (by rw[hs];exact hb.size) _⟩
theorem BX {g h:Nat}{z z':Value}(hg:Bk w2 g 51 #[z])(hh:Bk w2 h 22 #[z'])(hgw:w.heap.size<=g)(YH:w.heap.size<=h):FK w n m cs es (.returned (.func (.func 144) #[] #[.pointer (some ⟨g,0,none⟩),.pointer (some ⟨h,0,none⟩)])) ((w2.setCell ⟨g,0,none⟩ v).setCell ⟨h,0,none⟩ u):=by
 have hne:g≠h:=by
  rintro rfl;have a1:w2.heap[g]? =_:=hg;have a2:w2.heap[g]? =_:=hh;rw[a1] at a2;injection a2 with a3
  injection a3 with _ a4
  exact absurd a4 (by decide)
 have hh2:=hh.far (p:=⟨g,0,none⟩) hne.symm v;exact⟨v,u,_,_,rfl,ownsRow_base (gQ (gQ h1 hg (by decide) 0 v) hh2 (by decide) 0 u) hb1,ownsRow_base (gQ (gQ h2 hg (by decide) 0 v) hh2 (by decide) 0 u) hb2,(hg.set 0 v).far (p:=⟨h,0,none⟩) hne u,hh2.set 0 u,hgw,YH,(hb.setCell hgw _).setCell YH _⟩
end
theorem Jk (w:World)(B:Nat)(A E:Option Addr)(n c m d:Nat)(cs:List Value)(h1c:∀u∈cs,u.oneCell'=true)(es:List Int)(hA:Rd w B A n 3 cs)(hE:Rd w B E m 1 (aW es))(hB:B<=w.heap.size)(hn:n*24<=140737488355328)(hm:m*8<=140737488355328):
  Calls Tryz.prog 94 #[.agg #[.slice A n c,.slice E m d]] w (FK w n m cs es):=by
 go_enter Tryz.func94,Tryz.ntmps94
 go_wp2_with fail
 obtain⟨W,hW⟩:∃W,w.alloc (.cells #[.slice A n c,.slice E m d] 53)=W:=⟨_,rfl⟩
 have k0:W.cell? ⟨w.heap.size,0,none⟩=some (.slice A n c):=by rw[<-hW];simp[go_sem]
 have k1:W.cell? ⟨w.heap.size,1,none⟩=some (.slice E m d):=by rw[<-hW];simp[go_sem]
 have bw:Below w.heap.size w W:=by rw[<-hW];exact(akl _ _).alloc (nr _) _
 have hs:w.heap.size<W.heap.size:=by rw[<-hW];simp
 rw[hW];clear hW;have hA1:=hA.below bw hB;have hE1:=hE.below bw hB;have hBW:B<=W.heap.size:=by omega
 have hnW:¬(W.heap.size=w.heap.size):=by omega
 have agw:¬(W.heap.size+1=w.heap.size):=by omega
 have ahy:¬(w.heap.size=W.heap.size):=by omega
 have agK:¬(w.heap.size=W.heap.size+1):=by omega
 go_region_held3 (fun w'=>w'.cell? ⟨w.heap.size,0,none⟩=some (.slice A n c)/\w'.cell? ⟨w.heap.size,1,none⟩=some (.slice E m d))
  (first|go_keep)
  (first
   |(go_at_call 142;refine(Ub _ B A n c cs h1c (by first|exact hA1.drew|exact(hA1.alloc (by omega) _).drew|exact((hA1.alloc (by omega) _).alloc (by simp;omega) _).drew) (by first|omega|(simp;omega)) hn).mono ?_;rintro e w1 ⟨v,rfl,hown,Vu⟩;have hb1:=jF Vu;(have hs1:W.heap.size<=w1.heap.size:=nt (by first|exact nr _|(simp;omega)|simp) hb1.size);(have bw1:Below w.heap.size w w1:=by first|exact bw.trans (hb1.mono (by omega))|exact(bw.alloc (by omega) _).trans (hb1.mono (by simp;omega))|exact((bw.alloc (by omega) _).alloc (by simp;omega) _).trans (hb1.mono (by simp;omega)));(have hs1':w.heap.size<w1.heap.size:=aku hs hs1);(have hn1:¬(w1.heap.size=w.heap.size):=(by omega));(have hn2:¬(w1.heap.size+1=w.heap.size):=(by omega));(have hn3:¬(w.heap.size=w1.heap.size):=(by omega));(have hn4:¬(w.heap.size=w1.heap.size+1):=(by omega));(first|(have y0:=((bk1 W (.slice none 0 0) _).alloc _).below hb1;have y1:=(bk2 W _ (.slice none 0 0) _).below hb1;have q0:=ae hb1 (bU _ (bU _ k0));have q1:=ae hb1 (bU _ (bU _ k1));have hE2:=((hE1.alloc hBW _).alloc (by simp;omega) _).below hb1 (by simp;omega);have y0l:=y0.lt;have y0c:w1.cell? ⟨W.heap.size,0,none⟩=some (.slice none 0 0):=y0.cell 0;have y0f:w1.frozen? ⟨W.heap.size,0,none⟩=false:=y0.frozen 0;have y1l:=y1.lt;have y1c:w1.cell? ⟨W.heap.size+1,0,none⟩=some (.slice none 0 0):=y1.cell 0;have y1f:w1.frozen? ⟨W.heap.size+1,0,none⟩=false:=y1.frozen 0)|(have y0:=(bk1 W (.slice none 0 0) _).below hb1;have q0:=ae hb1 (bU _ k0);have q1:=ae hb1 (bU _ k1);have hE2:=(hE1.alloc hBW _).below hb1 (by simp;omega);have y0l:=y0.lt;have y0c:w1.cell? ⟨W.heap.size,0,none⟩=some (.slice none 0 0):=y0.cell 0;have y0f:w1.frozen? ⟨W.heap.size,0,none⟩=false:=y0.frozen 0)|(have q0:=ae hb1 k0;have q1:=ae hb1 k1;have hE2:=hE1.below hb1 hBW));obtain⟨A1,c1,rfl,-⟩:=Rd.ail hown)
   |(go_at_call 143;refine(abX _ B E m d es (by first|exact hE2|exact hE2.alloc (by omega) _|exact(hE2.alloc (by omega) _).alloc (by simp;omega) _) (by first|omega|(simp;omega)) hm).mono ?_;rintro e w2 ⟨u,rfl,oD,hb2⟩;(have hs2:w1.heap.size<=w2.heap.size:=nt (by first|exact nr _|(simp;omega)|simp) hb2.size);(have yH:Below w.heap.size w w2:=by first|exact bw1.trans (hb2.mono (by omega))|exact(bw1.alloc (by omega) _).trans (hb2.mono (by simp;omega))|exact((bw1.alloc (by omega) _).alloc (by simp;omega) _).trans (hb2.mono (by simp;omega)));(have hs2':w.heap.size<w2.heap.size:=aku hs1' hs2);(have hm1:¬(w2.heap.size=w.heap.size):=(by omega));(have hm2:¬(w2.heap.size+1=w.heap.size):=(by omega));(have hm3:¬(w.heap.size=w2.heap.size):=(by omega));(have hm4:¬(w.heap.size=w2.heap.size+1):=(by omega));(first|(have x0:=((bk1 w1 (.slice none 0 0) _).alloc _).below hb2;have x1:=(bk2 w1 _ (.slice none 0 0) _).below hb2;have hown2:=own_below ((hown.alloc _).alloc _) hb2;have r0:=ae hb2 (bU _ (bU _ q0));have r1:=ae hb2 (bU _ (bU _ q1));have x0l:=x0.lt;have x0c:w2.cell? ⟨w1.heap.size,0,none⟩=some (.slice none 0 0):=x0.cell 0;have x0f:w2.frozen? ⟨w1.heap.size,0,none⟩=false:=x0.frozen 0;have x1l:=x1.lt;have x1c:w2.cell? ⟨w1.heap.size+1,0,none⟩=some (.slice none 0 0):=x1.cell 0;have x1f:w2.frozen? ⟨w1.heap.size+1,0,none⟩=false:=x1.frozen 0)|(have x0:=(bk1 w1 (.slice none 0 0) _).below hb2;have hown2:=own_below (hown.alloc _) hb2;have r0:=ae hb2 (bU _ q0);have r1:=ae hb2 (bU _ q1);have x2:=(y0.alloc _).below hb2;have x0l:=x0.lt;have x0c:w2.cell? ⟨w1.heap.size,0,none⟩=some (.slice none 0 0):=x0.cell 0;have x0f:w2.frozen? ⟨w1.heap.size,0,none⟩=false:=x0.frozen 0;have x2l:=x2.lt;have x2c:w2.cell? ⟨W.heap.size,0,none⟩=some (.slice none 0 0):=x2.cell 0;have x2f:w2.frozen? ⟨W.heap.size,0,none⟩=false:=x2.frozen 0)|(have x0:=(bk1 w1 (.slice none 0 0) _).below hb2;have hown2:=own_below (hown.alloc _) hb2;have r0:=ae hb2 (bU _ q0);have r1:=ae hb2 (bU _ q1);have x0l:=x0.lt;have x0c:w2.cell? ⟨w1.heap.size,0,none⟩=some (.slice none 0 0):=x0.cell 0;have x0f:w2.frozen? ⟨w1.heap.size,0,none⟩=false:=x0.frozen 0)|(have hown2:=own_below hown hb2;have r0:=ae hb2 q0;have r1:=ae hb2 q1;have x2:=y0.below hb2;have x3:=y1.below hb2;have x2l:=x2.lt;have x2c:w2.cell? ⟨W.heap.size,0,none⟩=some (.slice none 0 0):=x2.cell 0;have x2f:w2.frozen? ⟨W.heap.size,0,none⟩=false:=x2.frozen 0;have x3l:=x3.lt;have x3c:w2.cell? ⟨W.heap.size+1,0,none⟩=some (.slice none 0 0):=x3.cell 0;have x3f:w2.frozen? ⟨W.heap.size+1,0,none⟩=false:=x3.frozen 0)|(have hown2:=own_below hown hb2;have r0:=ae hb2 q0;have r1:=ae hb2 q1;have x2:=y0.below hb2;have x2l:=x2.lt;have x2c:w2.cell? ⟨W.heap.size,0,none⟩=some (.slice none 0 0):=x2.cell 0;have x2f:w2.frozen? ⟨W.heap.size,0,none⟩=false:=x2.frozen 0)|(have hown2:=own_below hown hb2;have r0:=ae hb2 q0;have r1:=ae hb2 q1));obtain⟨E1,d1,rfl,-⟩:=Rd.ail oD))
 all_goals
  go_wp2_with fail
  go_ret
  first
   |exact aaM yH hown2 oD (by first|omega|(simp;omega)) (by first|omega|(simp;omega))
   |exact abK yH hown2 oD (by first|omega|(simp;omega)) (by first|omega|(simp;omega))
   |exact TA yH hown2 oD (by first|omega|(simp;omega)) (by first|omega|(simp;omega)) x0 (by omega)
   |exact TA yH hown2 oD (by first|omega|(simp;omega)) (by first|omega|(simp;omega)) x2 (by omega)
   |exact Sv yH hown2 oD (by first|omega|(simp;omega)) (by first|omega|(simp;omega)) x0 (by omega)
   |exact Sv yH hown2 oD (by first|omega|(simp;omega)) (by first|omega|(simp;omega)) x2 (by omega)
   |exact BX yH hown2 oD (by first|omega|(simp;omega)) (by first|omega|(simp;omega)) x0 x1 (by omega) (by omega)
   |exact BX yH hown2 oD (by first|omega|(simp;omega)) (by first|omega|(simp;omega)) x1 x0 (by omega) (by omega)
   |exact BX yH hown2 oD (by first|omega|(simp;omega)) (by first|omega|(simp;omega)) x0 x2 (by omega) (by omega)
   |exact BX yH hown2 oD (by first|omega|(simp;omega)) (by first|omega|(simp;omega)) x2 x0 (by omega) (by omega)
   |exact BX yH hown2 oD (by first|omega|(simp;omega)) (by first|omega|(simp;omega)) x2 x3 (by omega) (by omega)
   |exact BX yH hown2 oD (by first|omega|(simp;omega)) (by first|omega|(simp;omega)) x3 x2 (by omega) (by omega)
end
section
open Go.RowKit
def ais (rv:Rows):Rows:=fun j=>if 8<=j/\j<=13 then RV.nil else rv j
theorem ry (rv:Rows){j:Nat}(h:8<=j/\j<=13):ais rv j=RV.nil:=by rw[ais,if_pos h]
theorem qw (rv:Rows){j:Nat}(h:¬(8<=j/\j<=13)):ais rv j=rv j:=by rw[ais,if_neg h]
theorem Live.ais {w:World}{Bd:Nat}{rv:Rows}(h:Live w Bd rv):Live w Bd (ais rv):=by
 refine⟨fun j hj=> ?_,fun a b ha hb hab g=> ?_⟩
 ·by_cases hd:8<=j/\j<=13
  ·rw[ry _ hd];exact World.ownsRow_nil w Bd _ _
  rw[qw _ hd];exact h.own j hj
 by_cases hd:8<=a/\a<=13
 ·rw[ry _ hd];intro e;cases e
 rw[qw _ hd];by_cases hd2:8<=b/\b<=13
 ·rw[ry _ hd2];intro _ e;cases e
 rw[qw _ hd2];exact h.apart a b ha hb hab g
theorem Tr.ais (w:World)(rv:Rows):Tr w rv w (ais rv):=
 ⟨Same.refl _ _,fun b ⟨cs,t,h1,h2,h3⟩=>⟨cs,t,h1,h2,fun j hj=>by
  by_cases hd:8<=j/\j<=13
  ·rw[ry _ hd];intro e;cases e
  rw[qw _ hd];exact h3 j hj⟩⟩
theorem Live.fz6 {w:World}{Bd:Nat}{rv:Rows}(h:Live w Bd rv){i:Nat}(hi:8<=i/\i<=13):∀g,(rv i).v.ownBlock=some g->Fz w (Proofs.YtkijckccfookeaaGreatDoor.ais rv) g:=by
 intro g hg;obtain⟨cur,hb⟩:=aV (h.own i (by omega)) hg;refine⟨cur,kT i,hb,um i,fun j hj=> ?_⟩;by_cases hd:8<=j/\j<=13
 ·rw[ry _ hd];intro e;cases e
 rw[qw _ hd];exact h.apart i j (by omega) hj (fun e=>hd (e ▸ hi)) g hg
theorem Live.aiO {α:Type}{R:Rel α}(ok:R.Ok){w:World}{Bd:Nat}{rv:Rows}(h:Live w Bd rv){i:Nat}(hi:8<=i/\i<=13){size:Nat}(hs:kS i=size){xs:List α}(hf:aic R size w (Fz w rv) (rv i) xs):∃A c,(rv i).v= .slice A xs.length c/\Sl R size w (Fz w (Proofs.YtkijckccfookeaaGreatDoor.ais rv)) A xs:=by have ho:=h.own i (by omega);obtain⟨A,c,hv⟩:=gX ho;rw[hs,hv,hf.1] at ho;refine⟨A,c,by rw[hv,hf.1],Sl.aiC ho ((Tr.ais w rv).fl ok hf.2) (fun g hg=>h.fz6 hi g ?_) (by rw[<-hs];exact UC i)⟩;rw[hv,hf.1];exact hg
section
variable {w w2:World} {Bd p gm cm:Nat} {gl:Gl} {s:PS} {rv:Rows} {K:Nat}
theorem GlD.told {gs:List ahR}(hl:Live w Bd rv)(h:GlD w (Fz w rv) (rv 0) (rv 8) (rv 9) (rv 10) (rv 11) (rv 12) (rv 13) gs):Fl ahW 9 w (Fz w (Proofs.YtkijckccfookeaaGreatDoor.ais rv)) (rv 0).xs gs:=by
 rcases h.2 with⟨rfl,e⟩|⟨init,g,ci,rfl,e2,h3,h4,h5,h6,h7,h8,h9,h10⟩
 ·rw[e];exact Fl.nil
 rw[e2];obtain⟨A3,c3,v3,s3⟩:=hl.aiO PtR.ok (i:=8) (by decide) rfl h5;obtain⟨A4,c4,v4,s4⟩:=hl.aiO ahT.ok (i:=9) (by decide) rfl h6;obtain⟨A5,c5,v5,s5⟩:=hl.aiO ah6.ok (i:=10) (by decide) rfl h7;obtain⟨A6,c6,v6,s6⟩:=hl.aiO ahY.ok (i:=11) (by decide) rfl h8;obtain⟨A7,c7,v7,s7⟩:=hl.aiO ah3.ok (i:=12) (by decide) rfl h9;obtain⟨A8,c8,v8,s8⟩:=hl.aiO ah5.ok (i:=13) (by decide) rfl h10;rw[v3,v4,v5,v6,v7,v8];exact((Tr.ais w rv).fl ahW.ok h4).snoc (R:=ahW) ⟨A3,c3,A4,c4,A5,c5,A6,c6,A7,c7,A8,c8,rfl,h3,s3,s4,s5,s6,s7,s8⟩ rfl
theorem PSt.ajm (h:PSt w Bd p gm cm gl s rv K){v':Value}{nm:B}{adv:Int}{mk:Bool}(hg:w.grownBy w2 (rv 0).v.ownBlock)
  (ho:w2.ownsRow Bd (kT 0) (kS 0) v' ((rv 0).n+1) ((rv 0).xs++[.string ⟨nm.toArray⟩,.int .i64 adv,.bool mk,.slice none 0 0,.slice none 0 0,.slice none 0 0,.slice none 0 0,.slice none 0 0,.slice none 0 0])) (hl:Loc w (rv 0).v v') (ha:I64 adv) {K':Nat} (hK:K+1<=K'):
  ∃rv',PSt (w2.setCell ⟨p,1,none⟩ v') Bd p gm cm gl {s with f:= {s.f with ahO:=s.f.ahO++[⟨nm,adv,mk,[],[],[],[],[],[]⟩]}} rv' K'/\KQ cm w (w2.setCell ⟨p,1,none⟩ v'):=by
 obtain⟨a1,a2,ht,a4,a5⟩:=h.row (i:=0) (by decide) (r:=⟨v',(rv 0).n+1,_⟩) hg ho hl;generalize hr0:(⟨v',(rv 0).n+1,(rv 0).xs++[.string ⟨nm.toArray⟩,.int .i64 adv,.bool mk,.slice none 0 0,.slice none 0 0,.slice none 0 0,.slice none 0 0,.slice none 0 0,.slice none 0 0]⟩:RV)=r0 at*
 have ht6:=ht.trans (Tr.ais w2 (upd rv 0 r0));have f6:=h.fnt.tr ht6;have hgl:GlD w2 (Fz w2 (upd rv 0 r0)) (rv 0) ((upd rv 0 r0) 8) ((upd rv 0 r0) 9) ((upd rv 0 r0) 10) ((upd rv 0 r0) 11) ((upd rv 0 r0) 12) ((upd rv 0 r0) 13) s.f.ahO:=h.fnt.gly.tr ht;have hall:Fl ahW 9 w2 (Fz w2 (Proofs.YtkijckccfookeaaGreatDoor.ais (upd rv 0 r0))) (rv 0).xs s.f.ahO:=by
  rcases hgl.2 with⟨e0,e⟩|⟨init,g,ci,e1,e2,h3,h4,h5,h6,h7,h8,h9,h10⟩
  ·rw[e0,e];exact Fl.nil
  rw[e1,e2];obtain⟨A3,c3,v3,s3⟩:=a2.aiO PtR.ok (i:=8) (by decide) rfl h5;obtain⟨A4,c4,v4,s4⟩:=a2.aiO ahT.ok (i:=9) (by decide) rfl h6;obtain⟨A5,c5,v5,s5⟩:=a2.aiO ah6.ok (i:=10) (by decide) rfl h7;obtain⟨A6,c6,v6,s6⟩:=a2.aiO ahY.ok (i:=11) (by decide) rfl h8;obtain⟨A7,c7,v7,s7⟩:=a2.aiO ah3.ok (i:=12) (by decide) rfl h9;obtain⟨A8,c8,v8,s8⟩:=a2.aiO ah5.ok (i:=13) (by decide) rfl h10;rw[v3,v4,v5,v6,v7,v8];exact((Tr.ais w2 (upd rv 0 r0)).fl ahW.ok h4).snoc (R:=ahW) ⟨A3,c3,A4,c4,A5,c5,A6,c6,A7,c7,A8,c8,rfl,h3,s3,s4,s5,s6,s7,s8⟩ rfl
 have f7:FD w2 (Fz w2 (Proofs.YtkijckccfookeaaGreatDoor.ais (upd rv 0 r0))) (Proofs.YtkijckccfookeaaGreatDoor.ais (upd rv 0 r0)) {s.f with ahO:=s.f.ahO++[⟨nm,adv,mk,[],[],[],[],[],[]⟩]} :=by
  refine⟨f6.unit,?_,f6.chr,f6.lks,f6.fts,f6.axs,f6.rgs,f6.fns,f6.cvt⟩;have k0:(Proofs.YtkijckccfookeaaGreatDoor.ais (upd rv 0 r0)) 0=r0:=rfl;rw[k0];refine⟨?_,.inr ⟨s.f.ahO,⟨nm,adv,mk,[],[],[],[],[],[]⟩,(rv 0).xs,rfl,?_,ha,hall,aic.nil _ _ _ _,aic.nil _ _ _ _,aic.nil _ _ _ _,aic.nil _ _ _ _,aic.nil _ _ _ _,aic.nil _ _ _ _⟩⟩
  ·rw[<-hr0];show(rv 0).n+1=_;rw[h.fnt.gly.1];simp
  rw[<-hr0];rfl
 have hfew:∀j,j<15->(Proofs.YtkijckccfookeaaGreatDoor.ais (upd rv 0 r0) j).n<=K':=by
  intro j hj;by_cases hd:8<=j/\j<=13
  ·rw[ry _ hd];exact nz _
  rw[qw _ hd];refine fU h.few (nt (akA _ _) hK) ?_ j hj;rw[<-hr0];exact nt (akF (h.few 0 (by decide)) 1) hK
 obtain⟨ff,q1,q2⟩:=a5;refine⟨Proofs.YtkijckccfookeaaGreatDoor.ais (upd rv 0 r0),PSt.ajn (cs:=dV s rv gm cm) (s':= {s with f:= {s.f with ahO:=s.f.ahO++[⟨nm,adv,mk,[],[],[],[],[],[]⟩]}}) a1 a2.ais f7 a4 h.glI (aiF.tr ⟨ff,q1,q2⟩ (Tr.ais w2 (upd rv 0 r0)) rfl) hfew h.low 1 v' ?_,(KQ.live h.live (by decide) hg).trans (KQ.par a1 1 v')⟩;rw[<-hr0];rfl
theorem PSt.ai5 (h:PSt w Bd p gm cm gl s rv K){init:List Lookup}{l:Lookup}(hs:s.f.ahP=init++[l]):
  ∃G c0 ci,(rv 2).v= .slice (some ⟨G,0,none⟩) (init.length+1) c0/\(rv 2).xs=ci++[.int .i64 l.kind,.bool l.aik,(rv 14).v]/\ci.length=init.length*3/\G<w.heap.size/\
   (∀j,j<3->w.cell? ⟨G,init.length*3+j,none⟩=[Value.int .i64 l.kind,.bool l.aik,(rv 14).v][j]?)/\(∀j,w.frozen? ⟨G,j,none⟩=false)/\(∃cur,Bk w G 72 cur):=by
 have hn:=h.fnt.lks.1;have ho:=h.live.own 2 (by decide);rcases h.fnt.lks.2 with⟨e,_⟩|⟨init',l',ci,e1,e2,e3,e4,-⟩
 ·rw[hs] at e;simp at e
 rw[hs] at e1;obtain⟨rfl,e1⟩:=List.append_inj' e1 rfl;obtain rfl:l=l':=by simpa using e1
 have hl:=e4.1;have hn2:(rv 2).n=init.length+1:=by rw[hn,hs];simp
 rcases ho.2 with⟨_,h2⟩|⟨G,cap,cur,h1,hb,hh,hnc,hm,hsz,htk⟩
 ·omega
 rw[hn2] at h1;refine⟨G,cap,ci,h1,e2,hl,(akp.1 hh).1,fun j hj=> ?_,fun j=>Bk.frozen hh j,⟨cur,hh⟩⟩;rw[Bk.cell hh];have hlt:init.length*3+j<(rv 2).n*kS 2:=by rw[hn2];show _<(init.length+1)*3;omega
 have:(cur.toList.take ((rv 2).n*kS 2))[init.length*3+j]? =cur.toList[init.length*3+j]? :=by rw[akP,if_pos hlt]
 rw[<-Array.getElem?_toList,<-this,htk,e2,akI (by rw[hl];omega),hl,Nat.add_sub_cancel_left]
theorem PSt.ajg (h:PSt w Bd p gm cm gl s rv K){v':Value}{kd:Int}{ig:Bool}(hg:w.grownBy w2 (rv 2).v.ownBlock)
  (ho:w2.ownsRow Bd (kT 2) (kS 2) v' ((rv 2).n+1) ((rv 2).xs++[.int .i64 kd,.bool ig,.slice none 0 0])) (hl:Loc w (rv 2).v v') (ha:I64 kd) {K':Nat} (hK:K+1<=K'):
  ∃rv',PSt (w2.setCell ⟨p,3,none⟩ v') Bd p gm cm gl {s with f:= {s.f with ahP:=s.f.ahP++[⟨kd,ig,[]⟩]}} rv' K'/\KQ cm w (w2.setCell ⟨p,3,none⟩ v'):=by
 obtain⟨a1,a2,ht,a4,a5⟩:=h.row (i:=2) (by decide) (r:=⟨v',(rv 2).n+1,_⟩) hg ho hl;generalize hr0:(⟨v',(rv 2).n+1,(rv 2).xs++[.int .i64 kd,.bool ig,.slice none 0 0]⟩:RV)=r0 at*
 have ht6:=ht.trans (Tr.drop w2 (upd rv 2 r0) 14);have f6:=h.fnt.tr ht6;have hlk:LkD w2 (Fz w2 (upd rv 2 r0)) (rv 2) ((upd rv 2 r0) 14) s.f.ahP:=h.fnt.lks.tr ht;have hall:Fl ah1 3 w2 (Fz w2 (upd (upd rv 2 r0) 14 RV.nil)) (rv 2).xs s.f.ahP:=by
  rcases hlk.2 with⟨e0,e⟩|⟨init,l,ci,e1,e2,h3,h4,h5⟩
  ·rw[e0,e];exact Fl.nil
  rw[e1,e2];have Gy:=a2.own 14 (by decide);obtain⟨A,c,hv⟩:=gX Gy;rw[hv,h5.1] at Gy;rw[hv,h5.1];refine((Tr.drop w2 (upd rv 2 r0) 14).fl ah1.ok h4).snoc (R:=ah1) ⟨A,c,rfl,h3,Sl.aiC Gy ((Tr.drop w2 (upd rv 2 r0) 14).fl aig.ok h5.2) (fun g hg=>a2.ajS (i:=14) (by decide) g ?_) (by decide)⟩ rfl;rw[hv,h5.1];exact hg
 have f7:FD w2 (Fz w2 (upd (upd rv 2 r0) 14 RV.nil)) (upd (upd rv 2 r0) 14 RV.nil) {s.f with ahP:=s.f.ahP++[⟨kd,ig,[]⟩]} :=by
  refine⟨f6.unit,f6.gly,f6.chr,?_,f6.fts,f6.axs,f6.rgs,f6.fns,f6.cvt⟩;have k0:(upd (upd rv 2 r0) 14 RV.nil) 2=r0:=rfl;rw[k0];refine⟨?_,.inr ⟨s.f.ahP,⟨kd,ig,[]⟩,(rv 2).xs,rfl,?_,ha,hall,aic.nil _ _ _ _⟩⟩
  ·rw[<-hr0];show(rv 2).n+1=_;rw[h.fnt.lks.1];simp
  rw[<-hr0];rfl
 have hfew:∀j,j<15->(upd (upd rv 2 r0) 14 RV.nil j).n<=K':=by refine fU (fU h.few (nt (akA _ _) hK) ?_) (nr _) (nz _);rw[<-hr0];exact nt (akF (h.few 2 (by decide)) 1) hK
 obtain⟨ff,q1,q2⟩:=a5;refine⟨upd (upd rv 2 r0) 14 RV.nil,PSt.ajn (cs:=dV s rv gm cm) (s':= {s with f:= {s.f with ahP:=s.f.ahP++[⟨kd,ig,[]⟩]}}) a1 (a2.drop 14) f7 a4 h.glI (aiF.tr ⟨ff,q1,q2⟩ (Tr.drop w2 (upd rv 2 r0) 14) rfl) hfew h.low 3 v' ?_,(KQ.live h.live (by decide) hg).trans (KQ.par a1 3 v')⟩;rw[<-hr0];rfl
theorem PSt.ajh (h:PSt w Bd p gm cm gl s rv K){init:List Lookup}{l:Lookup}(hs:s.f.ahP=init++[l]){G n0 c0:Nat}(h0:(rv 2).v= .slice (some ⟨G,0,none⟩) n0 c0){v':Value}{cs:List Value}{y:aii}(hg:w.grownBy w2 (rv 14).v.ownBlock)(ho:w2.ownsRow Bd (kT 14) (kS 14) v' ((rv 14).n+1) ((rv 14).xs++cs))(hl:Loc w (rv 14).v v')
  (hf:Fl aig 6 w (Fz w rv) cs [y]) {K':Nat} (hK:K+1<=K'):
  ∃rv',PSt (w2.setCell ⟨G,init.length*3+2,none⟩ v') Bd p gm cm gl {s with f:= {s.f with ahP:=init++[{l with rules:=l.rules++[y]}]}} rv' K'/\KQ cm w (w2.setCell ⟨G,init.length*3+2,none⟩ v')/\Below Bd w (w2.setCell ⟨G,init.length*3+2,none⟩ v'):=by
 have ht:Tr w rv w2 (upd rv 14 ⟨v',(rv 14).n+1,(rv 14).xs++cs⟩):=Tr.row (by decide) hg hl;obtain⟨a1,a2,-,a4,a5⟩:=h.row (i:=14) (by decide) (r:=⟨v',(rv 14).n+1,(rv 14).xs++cs⟩) hg ho hl;have k0:(upd rv 14 ⟨v',(rv 14).n+1,(rv 14).xs++cs⟩) 2=rv 2:=rfl;have ho0:=a2.own 2 (by decide);rw[k0,h0] at ho0;have hn0:n0=(rv 2).n:=by obtain⟨A9,c9,e⟩:=gX (h.live.own 2 (by decide));rw[h0] at e;simp only[alh] at e;exact e.2.1
 have hos:=rG (hn0 ▸ ho0) (init.length*3+2) v';rw[hn0] at h0;have hown0:(Value.slice (some ⟨G,0,none⟩) (rv 2).n c0).ownBlock=some G:=rfl;have hg2:w2.grownBy (w2.setCell ⟨G,init.length*3+2,none⟩ v') ((upd rv 14 ⟨v',(rv 14).n+1,(rv 14).xs++cs⟩) 2).v.ownBlock:=by rw[k0,h0,hown0];exact dC w2 ⟨G,_,none⟩ v'
 rw[<-h0] at hos;have hl2:Loc w2 ((upd rv 14 ⟨v',(rv 14).n+1,(rv 14).xs++cs⟩) 2).v (rv 2).v:= .inl rfl;have b2:=a2.row (i:=2) (by decide) (r:=⟨(rv 2).v,(rv 2).n,(rv 2).xs.set (init.length*3+2) v'⟩) hg2 hos hl2;have ht2:Tr w2 (upd rv 14 ⟨v',(rv 14).n+1,(rv 14).xs++cs⟩) (w2.setCell ⟨G,init.length*3+2,none⟩ v') (upd (upd rv 14 ⟨v',(rv 14).n+1,(rv 14).xs++cs⟩) 2 ⟨(rv 2).v,(rv 2).n,(rv 2).xs.set (init.length*3+2) v'⟩):=Tr.row (by decide) hg2 hl2;have f2:=(h.fnt.tr ht).tr' ht2;have wI:G≠p:=fun e=>by
  obtain⟨cur,hb⟩:=aV (h.live.own 2 (by decide)) (g:=G) (by rw[h0];rfl);subst e;have:=(dR hb h.par).1
  revert this
  decide
 have qc:∀b es c,w2.heap[b]? =some (Obj.map es c)->b≠G:=fun b es c hb e=>by
  subst e;obtain⟨cur,hk⟩:=aV ho0 (g:=b) rfl;unfold Bk at hk;rw[hb] at hk;cases hk
 obtain⟨e1,c1,m1⟩:=a4.isMap;obtain⟨ff,q1,q2⟩:=a5;obtain⟨e2,c2,m2⟩:=q1.isMap;refine⟨upd (upd rv 14 ⟨v',(rv 14).n+1,(rv 14).xs++cs⟩) 2 ⟨(rv 2).v,(rv 2).n,(rv 2).xs.set (init.length*3+2) v'⟩,?_,?_,?_⟩
 ·refine {par:= ?_,live:=b2,fnt:=⟨f2.unit,f2.gly,f2.chr,?_,f2.fts,f2.axs,f2.rgs,f2.fns,f2.cvt⟩,gmp:=a4.keep (Below.heap_setCell _ _ _ _ (qc _ _ _ m1)),glI:=h.glI,cls:=aiF.tr ⟨ff,q1,q2⟩ ht2 (Below.heap_setCell _ _ _ _ (qc _ _ _ m2)),few:=fU (fU h.few (nt (akA _ _) hK) (nt (akF (h.few 14 (by decide)) 1) hK)) (nr _) (nt (h.few 2 (by decide)) (nt (akA _ _) hK)),low:=h.low}
  ·exact Bk.far a1 (fun e=>wI e.symm) _
  obtain⟨g1,g2⟩:=h.fnt.lks;refine⟨by show(rv 2).n=_;rw[g1,hs];simp,.inr ?_⟩;rcases g2 with⟨e,_⟩|⟨init',l',ci,e1,e2,h3,h4,h5⟩
  ·rw[hs] at e;simp at e
  rw[hs] at e1;obtain⟨rfl,e1⟩:=List.append_inj' e1 rfl;obtain rfl:l=l':=by simpa using e1
  refine⟨init,_,ci,rfl,?_,h3,ht2.fl ah1.ok (ht.fl ah1.ok h4),((h5.tr aig.ok ht).app rfl rfl (ht.fl aig.ok hf)).tr aig.ok ht2⟩;show(rv 2).xs.set (init.length*3+2) v'=_;rw[e2,pI ci _ 2 _ _ h4.1];rfl
 ·exact(KQ.live h.live (i:=14) (by decide) hg).trans (KQ.live a2 (i:=2) (by decide) hg2)
 refine((akl Bd w).grown hg h.size (fun g e=>((h.live.own 14 (by decide)).lt g e).1)).setCell ?_ _;exact((h.live.own 2 (by decide)).lt G (by rw[h0];rfl)).1
end
end
end Go.Proofs.YtkijckccfookeaaGreatDoor
