/- The contract of words.Lines. -/
import Derived.Test.YtkijckccfookeaaGreatDoorV08
set_option linter.unusedVariables false
set_option linter.unusedSimpArgs false
set_option maxRecDepth 100000
set_option maxHeartbeats 32000000
namespace Go.Proofs.YtkijckccfookeaaGreatDoor
section
open Go.RowKit Go.Shelf
attribute [local go_sem] Oper.semAt_some
attribute [-go_sem] Builtin.append_
theorem ad1:(Tryz.prog.info? 119).map (fun i=>(i.zero,i.size,i.bytes))=some (some (.slice none 0 0),1,24):=by kernel_rfl
theorem aal (w:World)(s:B):Calls Tryz.prog 70 #[.string ⟨s.toArray⟩,.string ⟨#[10]⟩] w fun e w'=>
  e= .returned (.func (.func 160) #[] #[.pointer (some ⟨w.heap.size+1,0,none⟩),.pointer (some ⟨w.heap.size,0,none⟩),.pointer (some ⟨w.heap.size+1+1,0,none⟩)])/\
   w'=((w.alloc (.cells #[.string ⟨s.toArray⟩] 9)).alloc (.cells #[.string ⟨#[10]⟩] 9)).alloc (.cells #[.int .i64 0] 3):=by
 go_enter Tryz.func70,Tryz.ntmps70
 go_wp2;go_ret
 exact⟨rfl,rfl⟩
def WI (w:World)(pre:List Ln)(W:World):Prop:=
 Bk W (w.heap.size+1) 3 #[.int .i64 pre.length]/\(∃z,Bk W (w.heap.size+1+1) 9 #[z])/\
  (∃A c hs,Bk W w.heap.size 109 #[.slice A hs.length c]/\W.ownsRow (w.heap.size+5) 119 1 (.slice A hs.length c) hs.length hs/\RowsIn 124 W hs (bK 1 (pre.map (·.1))))/\
  Below w.heap.size w W/\w.heap.size+5<=W.heap.size
theorem XB {A C:World}{row:Option Nat}(hg:A.grownBy C row)(hr:∀r,row=some r->∃o:Obj,A.heap[r]? =some o/\o.isCells=false){base e size n:Nat}{v:Value}{xs:List Value}(h:A.ownsRow base e size v n xs):C.ownsRow base e size v n xs:=by
 refine h.kept hg ?_;rcases h.2 with⟨rfl,_⟩|⟨g,cap,cur,rfl,_,hh,_⟩
 ·exact .inl rfl
 refine .inr (fun e=> ?_);obtain⟨o,ho,hc⟩:=hr g e.symm;rw[hh] at ho;cases ho;cases hc
theorem af0 (w:World)(B:Nat)(hB:w.heap.size<=B):OwnFrom B (WI w):=by
 intro s A C row hs hg hr;obtain⟨h1,⟨z,h2⟩,⟨A1,c1,hs1,h3,h4,h5⟩,h6,h7⟩:=hs;have hr':∀r,row=some r->∃o:Obj,A.heap[r]? =some o/\o.isCells=false:=fun r e=>(hr r e).2
 refine⟨(grownBy_keeps_cells hg hr' h1 rfl).trans h1,⟨z,(grownBy_keeps_cells hg hr' h2 rfl).trans h2⟩,⟨A1,c1,hs1,(grownBy_keeps_cells hg hr' h3 rfl).trans h3,XB hg hr' h4,h5.kept fun _ _ _ hrd=>hrd.other hg hr'⟩,?_,nt h7 hg.size⟩;exact h6.grown hg h6.size (fun k e=>nt hB (hr k e).1)
theorem DI {w:World}{t t':TypeId}{A:Option Addr}{n size g:Nat}{cs:List Value}{cur:Array Value}(h:RdT w t A n size cs)(hb:Bk w g t' cur)(hne:t≠t')(i:Nat)(u:Value):RdT (w.setCell ⟨g,i,none⟩ u) t A n size cs:=h.grown (bn (p:=⟨g,i,none⟩) (World.grownBy.refl _ _) (.inl rfl) _) (fun r e=>by cases e;exact⟨cur,t',hb,hne⟩)
theorem aax (w:World)(pre:List Ln)(W:World)(v:Value)(h:WI w pre W):WI w pre (W.setCell ⟨w.heap.size+1+1,0,none⟩ v):=by obtain⟨h1,⟨z,h2⟩,⟨A1,c1,hs1,h3,h4,h5⟩,h6,h7⟩:=h;refine⟨h1.far (by simp) _,⟨v,h2.set 0 _⟩,⟨A1,c1,hs1,h3.far (by simp<;>omega) _,ownsRow_setCell_below h4 (by simp<;>omega) _,h5.kept fun _ _ _ hrd=>DI hrd h2 (by decide) 0 v⟩,h6.setCell (by simp;omega) _,by simpa using h7⟩
theorem U1 {h:Nat}{W W':World}(hk:∀b,h<=b->b<h+3->W'.heap[b]? =W.heap[b]?):aos (WZ h) W W':=by
 rintro b (rfl|rfl|rfl) o ho -
 ·rw[hk _ (by omega) (by omega)];exact ho
 ·rw[hk _ (by omega) (by omega)];exact ho
 rw[hk _ (by omega) (by omega)];exact ho
theorem aea (w W w2:World)(pre:List Ln)(x:Ln)(hI:WI w pre W)(hz:one x.1=[])(hb:Below (W.setCell ⟨w.heap.size+1,0,none⟩ (.int .i64 ((pre.length:Int)+1))).heap.size (W.setCell ⟨w.heap.size+1,0,none⟩ (.int .i64 ((pre.length:Int)+1))) w2):
  WI w (pre++[x]) w2/\aos (WZ (w.heap.size+1+1)) W w2/\KeepsOthers W w2:=by
 obtain⟨h1,⟨z,h2⟩,⟨A1,c1,hs1,h3,h4,h5⟩,h6,h7⟩:=hI;have hsz:(W.setCell ⟨w.heap.size+1,0,none⟩ (.int .i64 ((pre.length:Int)+1))).heap.size=W.heap.size:=by simp
 rw[hsz] at hb;have e1:=h1.set 0 (.int .i64 ((pre.length:Int)+1));have hblk:∀b,b<W.heap.size->w2.heap[b]? =_:=fun b hb'=>hb.block b hb'
 refine⟨⟨?_,⟨z,?_⟩,⟨A1,c1,hs1,?_,?_,?_⟩,?_,?_⟩,?_,?_⟩
 ·have:=(hblk _ h1.lt).trans e1;simpa [Bk] using this
 ·exact(hblk _ h2.lt).trans (h2.far (by simp) _)
 ·exact(hblk _ h3.lt).trans (h3.far (by simp) _)
 ·refine own_below (ownsRow_setCell_below h4 (a:=⟨w.heap.size+1,0,none⟩) (by simp) (.int .i64 ((pre.length:Int)+1))) ?_;rw[hsz];exact hb
 ·rw[aqY,aqv,aq9,yR,if_pos hz,aqR];refine h5.kept fun _ _ _ hrd=>(DI hrd h1 (by decide) 0 (.int .i64 ((pre.length:Int)+1))).below ?_
  rw[hsz];exact hb
 ·exact(h6.setCell (by simp) _).trans (hb.mono (by omega))
 ·have:=hb.size;rw[hsz] at this;omega
 ·exact U1 fun b hb1 hb2=>(hblk b (by omega)).trans (Below.heap_setCell _ _ _ _ (by simp;omega))
 refine(KeepsOthers.setCell W _ _).trans ⟨hb.size,fun j o hj _=> ?_⟩;exact(hb.block j (by have:=(aqo.1 hj).1;rw[hsz] at this;exact this)).trans hj
theorem adk (w W w2:World)(pre:List Ln)(x:Ln)(A0 A2:Option Addr)(c0 c2:Nat)(hs0:List Value)(hl:pre.length<=100000000)(h1:Bk W (w.heap.size+1) 3 #[.int .i64 pre.length])(h2:∃z,Bk W (w.heap.size+1+1) 9 #[z])
  (h3:Bk W w.heap.size 109 #[.slice A0 hs0.length c0]) (h4:W.ownsRow (w.heap.size+5) 119 1 (.slice A0 hs0.length c0) hs0.length hs0) (h5:RowsIn 124 W hs0 (bK 1 (pre.map (·.1)))) (h6:Below w.heap.size w W) (h7:w.heap.size+5<=W.heap.size)
  (hz:one x.1≠[]) (hb:Below (W.setCell ⟨w.heap.size+1,0,none⟩ (.int .i64 ((pre.length:Int)+1))).heap.size (W.setCell ⟨w.heap.size+1,0,none⟩ (.int .i64 ((pre.length:Int)+1))) w2)
  (hown:w2.ownsRow (W.setCell ⟨w.heap.size+1,0,none⟩ (.int .i64 ((pre.length:Int)+1))).heap.size 124 3 (.slice A2 (one x.1).length c2) (one x.1).length (dD (num (pre.length+1) (one x.1)))):
  ∃A3 c3 w3,(Builtin.append_ #[109,109] 109 #[.slice A0 hs0.length c0,.slice (some ⟨w2.heap.size,0,none⟩) 1 1]).run Tryz.prog (w2.alloc (.cells #[.slice A2 (one x.1).length c2] 119))= .ok (.slice A3 (hs0.length+1) c3) w3/\
   w2.cell? ⟨w.heap.size,0,none⟩=some (.slice A0 hs0.length c0)/\w3.cell? ⟨w.heap.size,0,none⟩=some (.slice A0 hs0.length c0)/\w3.frozen? ⟨w.heap.size,0,none⟩=false/\
   WI w (pre++[x]) (w3.setCell ⟨w.heap.size,0,none⟩ (.slice A3 (hs0.length+1) c3))/\aos (WZ (w.heap.size+1+1)) W (w3.setCell ⟨w.heap.size,0,none⟩ (.slice A3 (hs0.length+1) c3))/\KeepsOthers W (w3.setCell ⟨w.heap.size,0,none⟩ (.slice A3 (hs0.length+1) c3)):=by
 obtain⟨i0,hi0,hz0,hz1,hz2⟩:=info_parts ad1;obtain⟨z,h2⟩:=h2;have hsz:(W.setCell ⟨w.heap.size+1,0,none⟩ (.int .i64 ((pre.length:Int)+1))).heap.size=W.heap.size:=by simp
 rw[hsz] at hb;rw[hsz] at hown;have hhl:hs0.length<=100000000:=by have a1:=h5.1;have a2:=AX 1 (pre.map (·.1));rw[aqs] at a2;omega
 have hbs:W.heap.size<=w2.heap.size:=by have:=hb.size;rw[hsz] at this;exact this
 have hblk:∀b,b<W.heap.size->w2.heap[b]? =_:=fun b hb'=>hb.block b hb'
 have hbW:∀b,b<W.heap.size->b≠w.heap.size+1->w2.heap[b]? =W.heap[b]? :=fun b hb' hne=>(hblk b hb').trans (Below.heap_setCell _ _ _ _ (by simpa using hne))
 have q4:w2.ownsRow (w.heap.size+5) 119 1 (.slice A0 hs0.length c0) hs0.length hs0:=by refine own_below (ownsRow_setCell_below h4 (a:=⟨w.heap.size+1,0,none⟩) (by simp) (.int .i64 ((pre.length:Int)+1))) ?_;rw[hsz];exact hb
 have q5:RowsIn 124 w2 hs0 (bK 1 (pre.map (·.1))):=by
  refine h5.kept fun _ _ _ hrd=>(DI hrd h1 (by decide) 0 (.int .i64 ((pre.length:Int)+1))).below ?_
  rw[hsz];exact hb
 have q1:Bk w2 (w.heap.size+1) 3 #[.int .i64 ((pre.length:Int)+1)]:=(hblk _ h1.lt).trans (h1.set 0 _);have q2:Bk w2 (w.heap.size+1+1) 9 #[z]:=(hbW _ (by omega) (by omega)).trans h2;have q3:Bk w2 w.heap.size 109 #[.slice A0 hs0.length c0]:=(hbW _ (by omega) (by omega)).trans h3;have q6:Below w.heap.size w w2:=(h6.setCell (by simp) _).trans (hb.mono (by omega));obtain⟨v3,w3,hrun,hown3,hg,hat⟩:=oJ (P:=Tryz.prog) (w2.alloc (.cells #[.slice A2 (one x.1).length c2] 119)) (w.heap.size+5) 109 109 119 i0 _ 1 24 Tryz.underlying109 hi0 hz0 hz1 hz2 rfl (by decide) (.slice A0 hs0.length c0) hs0.length _ (q4.alloc _) (w2.heap.size+1) (some ⟨w2.heap.size,0,none⟩) 1 1 [.slice A2 (one x.1).length c2] (Rd.new w2 #[.slice A2 (one x.1).length c2] 119 1 1 rfl) (by simp[Value.oneCell']) (by simp only[maxLen];omega) (by omega) (by simp;omega);obtain⟨A3,c3,rfl,-⟩:=Rd.aoy hown3;have hlow:∀k,k<w.heap.size+5->some k≠(Value.slice A0 hs0.length c0).ownBlock:=fun k hk e=>by have:=(q4.lt k e.symm).1;omega
 have zx:∀k,k<w.heap.size+5->w3.heap[k]? =w2.heap[k]? :=fun k hk=>(hg.block k (by simp;omega) (hlow k hk)).trans (Below.heap_alloc _ _ _ (by omega))
 have x3:Bk w3 w.heap.size 109 #[.slice A0 hs0.length c0]:=(zx _ (by omega)).trans q3;have s3:w2.heap.size+1<=w3.heap.size:=by have:=hg.size;simpa using this
 refine⟨A3,c3,w3,hrun,q3.cell 0,x3.cell 0,x3.frozen 0,⟨?_,⟨z,?_⟩,⟨A3,c3,hs0++[.slice A2 (one x.1).length c2],?_,?_,?_⟩,?_,?_⟩,?_,?_⟩
 ·have:=Bk.far (p:=⟨w.heap.size,0,none⟩) ((zx _ (by omega)).trans q1) (by simp) (.slice A3 (hs0.length+1) c3);simpa using this
 ·exact Bk.far ((zx _ (by omega)).trans q2) (by simp;omega) _
 ·have:=x3.set 0 (.slice A3 (hs0.length+1) c3);simpa using this
 ·have:=ownsRow_setCell_below hown3 (a:=⟨w.heap.size,0,none⟩) (by simp) (.slice A3 (hs0.length+1) c3);simpa using this
 ·rw[aqY,aqv,aq9,yR,if_neg hz,aqs];have hrd:RdT w2 124 A2 (one x.1).length 3 (dD (num (pre.length+1) (one x.1))):=kH hown;have a1:=((q5.snoc hrd (c:=c2) (vZ hown)).alloc (.cells #[.slice A2 (one x.1).length c2] 119)).grown (q4.alloc _) hg (by decide);exact a1.kept fun _ _ _ hr=>DI hr x3 (by decide) 0 _
 ·exact((q6.alloc q6.size _).grown hg (by simp;omega) (fun g hg'=>by have:=(q4.lt g hg').1;omega)).setCell (by simp) _
 ·simp;omega
 ·exact U1 fun b hb1 hb2=>(Below.heap_setCell _ _ _ _ (by simp;omega)).trans ((zx b (by omega)).trans (hbW b (by omega) (by omega)))
 refine KeepsOthers.trans (KeepsOthers.trans (KeepsOthers.trans (KeepsOthers.trans (KeepsOthers.setCell W _ _) ⟨hb.size,fun j o hj _=> ?_⟩) (KeepsOthers.alloc w2 _)) (KeepsOthers.of_grownBy hg (fun j o hj ho=> ?_))) (KeepsOthers.setCell _ _ _)
 ·exact(hb.block j (by have:=(aqo.1 hj).1;rw[hsz] at this;exact this)).trans hj
 obtain⟨cur,hk⟩:=jK (q4.alloc (.cells #[.slice A2 (one x.1).length c2] 119)) j hj;have hk2:(w2.alloc (.cells #[.slice A2 (one x.1).length c2] 119)).heap[j]? =_:=hk;rw[hk2] at ho;cases ho;rfl
theorem ab9 (w:World)(s:B)(hs:s.length<=100000000):Calls Tryz.prog 38 #[.string ⟨s.toArray⟩] w fun e w'=>∃v,e= .returned v/\vY 124 119 w w' (fJ s) v:=by
 refine(callsIn_wide (n:=20)).1 ?_;refine callsIn_of_wp_marks Tryz.func38 rfl trivial ?_ rfl;simp only[Tryz.ntmps38,List.size_toArray,ay,ln,Nat.reduceAdd,Nat.reduceSub,Array.replicate_succ,Array.replicate_zero,List.push_toArray,List.append_toArray,aqX,aqC]
 gi_wp2_with fail
 refine⟨trivial,?_⟩;refine(callsIn_wide.2 (aal _ s)).mono ?_;rintro e w6 ⟨rfl,hw6⟩;have g0:Bk w6 w.heap.size 109 #[.slice none 0 0]:=by rw[hw6];exact((((Bk.new w 109 _).alloc _).alloc _).alloc _).alloc _
 have g1:Bk w6 (w.heap.size+1) 3 #[.int .i64 0]:=by rw[hw6];have:=(((Bk.new (w.alloc (.cells #[.slice none 0 0] 109)) 3 #[.int .i64 0]).alloc (.cells #[.string ⟨s.toArray⟩] 9)).alloc (.cells #[.string ⟨#[10]⟩] 9)).alloc (.cells #[.int .i64 0] 3);simp only[World.size_alloc] at this;exact this
 have g2:Bk w6 (w.heap.size+1+1) 9 #[.string ⟨s.toArray⟩]:=by rw[hw6];have:=((Bk.new ((w.alloc (.cells #[.slice none 0 0] 109)).alloc (.cells #[.int .i64 0] 3)) 9 #[.string ⟨s.toArray⟩]).alloc (.cells #[.string ⟨#[10]⟩] 9)).alloc (.cells #[.int .i64 0] 3);simp only[World.size_alloc] at this;exact this
 have g3:Bk w6 (w.heap.size+1+1+1) 9 #[.string ⟨#[10]⟩]:=by rw[hw6];have:=(Bk.new (((w.alloc (.cells #[.slice none 0 0] 109)).alloc (.cells #[.int .i64 0] 3)).alloc (.cells #[.string ⟨s.toArray⟩] 9)) 9 #[.string ⟨#[10]⟩]).alloc (.cells #[.int .i64 0] 3);simp only[World.size_alloc] at this;exact this
 have g4:Bk w6 (w.heap.size+1+1+1+1) 3 #[.int .i64 0]:=by rw[hw6];have:=Bk.new ((((w.alloc (.cells #[.slice none 0 0] 109)).alloc (.cells #[.int .i64 0] 3)).alloc (.cells #[.string ⟨s.toArray⟩] 9)).alloc (.cells #[.string ⟨#[10]⟩] 9)) 3 #[.int .i64 0];simp only[World.size_alloc] at this;exact this
 have hb6:Below w.heap.size w w6:=by rw[hw6];exact(((((aqk _ w).alloc (ag _) _).alloc (by simp) _).alloc (by simp;omega) _).alloc (by simp;omega) _).alloc (by simp;omega) _
 have hs6:w6.heap.size=w.heap.size+5:=by rw[hw6];simp
 simp only[World.size_alloc];have Hit:=hd0 (YO w6 (w.heap.size+1+1) s hs g2 g3 g4);have hI0:Hid (WI w [] w6):=⟨g1,⟨_,g2⟩,⟨none,0,[],g0,⟨rfl,.inl ⟨rfl,rfl⟩⟩,RowsIn.nil _ _⟩,hb6,by omega⟩
 clear hw6 g0 g1 g2 g3 g4 hb6
 gi_wp2_with fail
 refine Ha (n:=20) (cs:=w.heap.size+1+1) (gf:=160) (lb:= #[.pointer (some ⟨w.heap.size+1+1+1,0,none⟩),.pointer (some ⟨w.heap.size+1+1,0,none⟩),.pointer (some ⟨w.heap.size+1+1+1+1,0,none⟩)]) (by omega) rfl (enters_of Tryz.func160 (by kernel_rfl) rfl) (fun _=>rfl) Hit.out (Bx:=fun _=>False) (fun _ _ h=>h)
  (fun h k=>h.trans k) (fun W l o o' h hc=>aos.put W l o o' h hc) (fun xs W l o o' h _ _=>h) (WI w) (af0 w _ (by omega)) (aax w) hI0.out
  (fun x=> {tmps:= #[.string ⟨s.toArray⟩,undef,.slice none 0 0,.pointer (some ⟨w.heap.size,0,none⟩),.pointer (some ⟨w.heap.size+1,0,none⟩),.string ⟨x.1.toArray⟩,undef,.string ⟨s.toArray⟩,.func (.func 160) #[] #[.pointer (some ⟨w.heap.size+1+1+1,0,none⟩),.pointer (some ⟨w.heap.size+1+1,0,none⟩),.pointer (some ⟨w.heap.size+1+1+1+1,0,none⟩)],.string ⟨x.1.toArray⟩,undef,undef,undef,undef,undef,undef,undef,undef,undef,undef,undef,undef,undef],defers:=[]}) ?assign ?body ?done
 case assign=>
  intro l x W K hK;simp only[Ot]
  gi_wp2
  exact hK
 case body=>
  rintro l pre x W hI hlen;have HI:=hd0 hI;obtain⟨h1,h2,⟨A0,c0,hs0,h3,h4,h5⟩,h6,h7⟩:=hI;have k1:W.cell? ⟨w.heap.size+1,0,none⟩=some (.int .i64 pre.length):=h1.cell 0;have f1:=h1.frozen 0;have hsp:Calls Tryz.prog 71 #[.string ⟨x.1.toArray⟩,.int .i64 ((pre.length:Int)+1)] (W.setCell ⟨w.heap.size+1,0,none⟩ (.int .i64 ((pre.length:Int)+1))) (CJ (W.setCell ⟨w.heap.size+1,0,none⟩ (.int .i64 ((pre.length:Int)+1))) x.1 (pre.length+1)):=by
   have e:((pre.length:Int)+1)=((pre.length+1:Nat):Int):=by omega
   rw[e];exact split_ok _ x.1 (pre.length+1) x.2
  have Hsp:=hd0 hsp;clear hsp
  gi_wp2_with fail
  refine⟨trivial,rfl,?_⟩;refine(CallsIn.inRound l (callsIn_wide.2 Hsp.out)).mono ?_;rintro e w2 ⟨v2,rfl,hown2,hb2⟩;obtain⟨A2,c2,rfl,-⟩:=Rd.aoy hown2;by_cases hz:one x.1=[]
  ·have Hp:=hd0 (aea w W w2 pre x HI.out hz hb2);have hz0:¬0<(one x.1).length:=by simp[hz]
   clear hz hown2 hb2
   gi_wp2_with fail
   exact Hp.out
  obtain⟨A3,c3,w3,hrun3,hq2,hq3,hf3,hpost⟩:=adk w W w2 pre x A0 A2 c0 c2 hs0 (by omega) h1 h2 h3 h4 h5 h6 h7 hz hb2 hown2;have Hp:=hd0 hpost;have hz0:0<(one x.1).length:=List.length_pos_iff.2 hz;clear hz hown2 hb2 hpost
  gi_wp2_with fail
  exact Hp.out
 case done=>
  rintro D xs W hD hS hI hK;obtain⟨h1,h2,⟨A0,c0,hs0,h3,h4,h5⟩,h6,h7⟩:=hI;have k0:W.cell? ⟨w.heap.size,0,none⟩=some (.slice A0 hs0.length c0):=h3.cell 0;have HS:=hd0 hS;clear hS
  gi_wp2_with fail
  refine⟨by simp,.inl ⟨_,_,rfl,run_takeDeferred hK,?_⟩⟩;have hl:hs0.length=(fJ s).length:=by rw[h5.1,fJ,HS.out]
  refine⟨.slice A0 hs0.length c0,by simp[results,Tryz.results38,go_sem],_,rfl,A0,c0,hs0,by rw[hl],?_,?_,?_⟩
  ·rw[<-hl];exact kH (ownsRow_putObj h4 (.deferred none) hK rfl)
  ·rw[fJ,<-HS.out];exact h5.kept fun _ _ _ hr=>hr.other (grownBy_putObj' W D _) (fun q hq=>by cases hq;exact⟨_,hK,rfl⟩)
  exact h6.trans (belowK_b (w:=w) (ag _) W D _ _ (by omega) hK rfl rfl)
end
section
open Go.RowKit
abbrev Rdr (w:World)(rb p:Nat)(err:Int):Prop:=Bk w rb QA #[.pointer (some ⟨p,0,none⟩),.int .i64 err]
theorem cZ {a b c:World}{row:Option Nat}(h:a.grownBy b row)(k:b.grownBy c row):a.grownBy c row:=⟨k.os.trans h.os,k.tape.trans h.tape,k.output.trans h.output,nt h.size k.size,fun i hi hne=>(k.block i (aqu hi h.size) hne).trans (h.block i hi hne)⟩
theorem KE {a b c:World}{row r2:Option Nat}(h:a.grownBy b row)(k:b.grownBy c r2)(hr:∀g,r2=some g->a.heap.size<=g):a.grownBy c row:=⟨k.os.trans h.os,k.tape.trans h.tape,k.output.trans h.output,nt h.size k.size,fun i hi hne=>(k.block i (aqu hi h.size) (fun e=>by have:=hr i e.symm;omega)).trans (h.block i hi hne)⟩
def eC (err c:Int):Int:=if err=0 then c else err
theorem qM (w:World)(rb p:Nat)(err c:Int)(h:Rdr w rb p err):
  Calls Tryz.prog 164 #[.pointer (some ⟨rb,0,none⟩),.int .i64 c] w fun e w'=>e= .returned (.tuple #[])/\Rdr w' rb p (eC err c)/\w.grownBy w' (some rb):=by
 have c1:w.cell? ⟨rb,1,none⟩=some (.int .i64 err):=h.cell 1;have f1:w.frozen? ⟨rb,1,none⟩=false:=h.frozen 1;have H:=hd0 h;clear h;by_cases h0:err=0
 ·subst h0;go_enter Tryz.func164,Tryz.ntmps164
  go_wp2
  go_end0
  exact⟨rfl,H.out.set 1 _,dF w ⟨rb,1,none⟩ _⟩
 have e0:(err==0)=false:=by simpa using h0
 have e1:Hid (eC err c=err):=by show _=_;rw[eC,if_neg h0]
 clear h0;go_enter Tryz.func164,Tryz.ntmps164
 go_wp2
 go_end0
 rw[e1.out];exact⟨rfl,H.out,World.grownBy.refl _ _⟩
def RdP (w:World)(rb p:Nat)(err:Int)(v:Value)(e:Ending)(w':World):Prop:=e= .returned v/\Rdr w' rb p err/\w.grownBy w' (some rb)
theorem Rdr.below {w w':World}{rb p:Nat}{err:Int}(h:Rdr w rb p err)(hb:Below w.heap.size w w'):Rdr w' rb p err:=(hb.block rb h.lt).trans h
theorem yT {w w':World}(hb:Below w.heap.size w w')(row:Option Nat):w.grownBy w' row:=aH hb row
theorem below_grown {a b c:World}{row:Option Nat}(hb:Below a.heap.size a b)(h:b.grownBy c row):a.grownBy c row:=cZ (aH hb row) h
theorem dP (w:World)(rb p:Nat)(err:Int)(t:B)(h:Rdr w rb p err)(ht:t.length<=100000000):
  Calls Tryz.prog 122 #[.pointer (some ⟨rb,0,none⟩),.string ⟨t.toArray⟩] w (RdP w rb p (aT err t) (.int .i64 (aI t))):=by
 have hn:=hd0 (WQ w t ht);have H:=hd0 h;clear h ht;cases hk:vW t with
 |true=>
  have e1:Hid (aT err t=err):=by show _=_;rw[aT,hk];simp
  have hk:=hd0 hk;go_enter Tryz.func122,Tryz.ntmps122
  go_wp2_with (go_at_call 163;refine hn.out.mono ?_;rintro e w1 ⟨rfl,hb1⟩;rw[hk.out])
  go_ret
  rw[e1.out];exact⟨rfl,H.out.below hb1,yT hb1 _⟩
 |false=>
  have e1:Hid (aT err t=eC err 21):=by show _=_;rw[aT,hk,eC];simp
  have hk:=hd0 hk;go_enter Tryz.func122,Tryz.ntmps122
  go_wp2_with (first
   |(go_at_call 163;refine hn.out.mono ?_;rintro e w1 ⟨rfl,hb1⟩;rw[hk.out])
   |(go_at_call 164;refine(qM w1 rb p err 21 (H.out.below hb1)).mono ?_;rintro e w2 ⟨rfl,hr2,hg2⟩))
  go_ret
  rw[e1.out];exact⟨rfl,hr2,below_grown hb1 hg2⟩
theorem yU (w:World)(rb p:Nat)(err:Int)(t:B)(h:Rdr w rb p err):
  Calls Tryz.prog 123 #[.pointer (some ⟨rb,0,none⟩),.string ⟨t.toArray⟩] w (RdP w rb p (bI err t) (.string ⟨t.toArray⟩)):=by
 have hn:=hd0 (Aj w t);have H:=hd0 h;clear h;cases hk:nameB t with
 |true=>
  have e1:Hid (bI err t=err):=by show _=_;rw[bI,hk];simp
  have hk:=hd0 hk;go_enter Tryz.func123,Tryz.ntmps123
  go_wp2_with (go_at_call 72;refine hn.out.mono ?_;rintro e w1 ⟨rfl,hb1⟩;rw[hk.out])
  go_ret
  rw[e1.out];exact⟨rfl,H.out.below hb1,yT hb1 _⟩
 |false=>
  have e1:Hid (bI err t=eC err 23):=by show _=_;rw[bI,hk,eC];simp
  have hk:=hd0 hk;go_enter Tryz.func123,Tryz.ntmps123
  go_wp2_with (first
   |(go_at_call 72;refine hn.out.mono ?_;rintro e w1 ⟨rfl,hb1⟩;rw[hk.out])
   |(go_at_call 164;refine(qM w1 rb p err 23 (H.out.below hb1)).mono ?_;rintro e w2 ⟨rfl,hr2,hg2⟩))
  go_ret
  rw[e1.out];exact⟨rfl,hr2,below_grown hb1 hg2⟩
structure aoW (w:World)(p gm:Nat)(gl:Gl):Prop where
 cell:w.cell? ⟨p,10,none⟩=some (.map (some gm))
 map:an0 mD w gm (fun t=>(gl.lookup t).map fun n=> .int .i64 (n:Nat))
theorem an0.apI {κ :Type}{E:Emb κ}{w:World}{b:Nat}{f: κ ->Option Value}{P:Program}{T K El:TypeId}(h:an0 E w b f)(hT:P.underlying T=some (.map K El))(hK:P.underlying K=some E.d){z:Value}(hz:(zeroValue El).run P w= .ok z w)(k: κ){v:Value}{ok:Bool}(hv:(f k).getD z=v)(ho:(f k).isSome=ok):
  (Instr.lookup T (.map (some b)) (E.emb k) true).run P w= .ok (.tuple #[v,.bool ok]) w:=by
 rw[h.ao2 hT hK hz k,hv,ho]
theorem Jp (w:World):(zeroValue 3).run Tryz.prog w= .ok (.int .i64 0) w:=by kernel_rfl
theorem zZ (w:World)(rb p gm:Nat)(gl:Gl)(err:Int)(t:B)(h:Rdr w rb p err)(hm:aoW w p gm gl):
  Calls Tryz.prog 132 #[.pointer (some ⟨rb,0,none⟩),.string ⟨t.toArray⟩] w (RdP w rb p (jE gl err t) (.int .i64 (fM gl t))):=by
 have c0:w.cell? ⟨rb,0,none⟩=some (.pointer (some ⟨p,0,none⟩)):=h.cell 0;have c10:=hm.cell;have H:=hd0 h;cases hk:gl.lookup t with
 |some n=>
  have hl:∀w',w'=w->(Instr.lookup 112 (.map (some gm)) (.string ⟨t.toArray⟩) true).run Tryz.prog w'= .ok (.tuple #[.int .i64 (fM gl t),.bool true]) w':=fun w' e=>by
   subst e;exact hm.map.apI Tryz.underlying112 Tryz.underlying9 (Jp _) t (by rw[hk,fM,hk];rfl) (by rw[hk];rfl)
  have hl:=hl w rfl;have e1:Hid (jE gl err t=err):=by show _=_;rw[jE,hk];simp
  clear h hm hk;go_enter Tryz.func132,Tryz.ntmps132
  go_wp2;go_ret
  rw[e1.out];exact⟨rfl,H.out,World.grownBy.refl _ _⟩
 |none=>
  have hl:(Instr.lookup 112 (.map (some gm)) (.string ⟨t.toArray⟩) true).run Tryz.prog w= .ok (.tuple #[.int .i64 (fM gl t),.bool false]) w:=hm.map.apI Tryz.underlying112 Tryz.underlying9 (Jp _) t (by rw[hk,fM,hk];rfl) (by rw[hk];rfl);have e1:Hid (jE gl err t=eC err 23):=by show _=_;rw[jE,hk,eC];simp
  clear h hm hk;go_enter Tryz.func132,Tryz.ntmps132
  go_wp2_with (go_at_call 164;refine(qM _ rb p err 23 H.out).mono ?_;rintro e w2 ⟨rfl,hr2,hg2⟩)
  go_ret
  rw[e1.out];exact⟨rfl,hr2,hg2⟩
theorem gu (w:World)(p:Nat):Calls Tryz.prog 121 #[.pointer (some ⟨p,0,none⟩)] w fun e w'=>e= .returned (.pointer (some ⟨w.heap.size,0,none⟩))/\Rdr w' w.heap.size p 0/\Below w.heap.size w w':=by
 go_enter Tryz.func121,Tryz.ntmps121
 go_wp2;go_ret
 exact⟨rfl,Bk.new _ _ _,(aqk _ _).alloc (ag _) _⟩
abbrev mY:TypeId:=149
abbrev aY:TypeId:=3
def mkV (A:Option Addr)(n c a:Nat)(fs:Nat->Value)(lp:Int):Array Value:= #[.slice A n c,.int .i64 a,fs 0,fs 1,fs 2,fs 3,fs 4,fs 5,fs 6,fs 7,fs 8,.int .i64 lp]
def Mk (w:World)(m:Nat)(fs:Nat->Value)(lp:Int):Prop:=∃A n c a zs,Bk w m mY (mkV A n c a fs lp)/\a<=n/\n<=1000000000/\Rd w m A n 1 (aP zs)/\∀z∈zs,I64 z
abbrev Mv (m:Nat)(w w':World):Prop:=w.grownBy w' (some m)
theorem WJ {a b:World}{m Bd:Nat}(h:a.grownBy b (some m))(hm:Bd<=m)(hB:Bd<=a.heap.size):Below Bd a b:=⟨h.os,h.tape,h.output,h.size,fun i hi=>h.block i (by omega) (fun e=>by injection e with e;omega)⟩
theorem Mk.lt {w:World}{m:Nat}{fs:Nat->Value}{lp:Int}(h:Mk w m fs lp):m<w.heap.size:=by obtain⟨A,n,c,a,zs,h1,-⟩:=h;exact h1.lt
theorem Mk.cells {w:World}{m:Nat}{fs:Nat->Value}{lp:Int}(h:Mk w m fs lp):(∀i,i<9->w.cell? ⟨m,i+2,none⟩=some (fs i))/\w.cell? ⟨m,11,none⟩=some (.int .i64 lp):=by
 obtain⟨A,n,c,a,zs,h1,-⟩:=h;refine⟨fun i hi=> ?_,h1.cell 11⟩;rw[h1.cell (i+2)];have:i=0\/i=1\/i=2\/i=3\/i=4\/i=5\/i=6\/i=7\/i=8:=by omega
 rcases this with rfl|rfl|rfl|rfl|rfl|rfl|rfl|rfl|rfl<;>rfl
theorem Mk.frozen {w:World}{m:Nat}{fs:Nat->Value}{lp:Int}(h:Mk w m fs lp)(i:Nat):w.frozen? ⟨m,i,none⟩=false:=by obtain⟨A,n,c,a,zs,h1,-⟩:=h;exact h1.frozen i
theorem Mk.grown {w w':World}{m:Nat}{fs:Nat->Value}{lp:Int}(h:Mk w m fs lp){row:Option Nat}(hg:w.grownBy w' row)(hr:∀g,row=some g->m<g):Mk w' m fs lp:=by have hm:=h.lt;obtain⟨A,n,c,a,zs,h1,h2,h3,h4,h5⟩:=h;exact⟨A,n,c,a,zs,(hg.block m hm (fun e=>by have:=hr m e.symm;omega)).trans h1,h2,h3,h4.grown hg (by omega) (fun g e=>by have:=hr g e;omega),h5⟩
theorem Mk.below {w w':World}{m:Nat}{fs:Nat->Value}{lp:Int}(h:Mk w m fs lp)(hb:Below w.heap.size w w'):Mk w' m fs lp:=h.grown (row:=none) (aH hb none) (fun g e=>by cases e)
theorem Mk.set {w:World}{m:Nat}{fs fs':Nat->Value}{lp lp':Int}(h:Mk w m fs lp)(j:Nat)(u:Value)(hj:∀A n c a,(mkV A n c a fs lp).setIfInBounds j u=mkV A n c a fs' lp'):Mk (w.setCell ⟨m,j,none⟩ u) m fs' lp':=by obtain⟨A,n,c,a,zs,h1,h2,h3,h4,h5⟩:=h;exact⟨A,n,c,a,zs,by have:=h1.set j u;rwa [hj] at this,h2,h3,h4.setCell (by simp) u,h5⟩
theorem Y1 {w w':World}{base:Nat}{e:TypeId}{size:Nat}{v:Value}{n:Nat}{xs:List Value}(h:w.ownsRow base e size v n xs){m:Nat}(hg:w.grownBy w' (some m))(hm:m<base):w'.ownsRow base e size v n xs:=
 h.kept (row:=some m) hg (by
  cases hb:v.ownBlock with
  |none=>exact .inl rfl
  |some g=>exact .inr (fun e=>by injection e with e;have:=(h.lt g hb).1;omega))
theorem yE (w:World)(base:Nat)(e:TypeId)(size n:Nat)(cur:Array Value)(hb:base<=w.heap.size)(hn:cur.size=n*size)(hm:n<=1000000):(w.alloc (.cells cur e)).ownsRow base e size (.slice (some ⟨w.heap.size,0,none⟩) n n) n cur.toList:=⟨by simpa using hn,.inr ⟨w.heap.size,n,cur,rfl,hb,heap_alloc_new w _,ag _,by unfold maxLen;omega,hn,by rw[aqE];simpa using Nat.le_of_eq hn⟩⟩
def NI (base:Nat)(w:World):Bs:=fun b=>base<=b/\∃cs,Bk w b aY cs
def Nw (base:Nat)(w:World):Bs:=fun b=>base<=b/\∃cs t,Bk w b t cs/\lK t=true
theorem NI.base {base base':Nat}{w:World}(hb:base'<=base):∀b,NI base w b->NI base' w b:=fun b ⟨h,k⟩=>⟨by omega,k⟩
theorem Nw.base {base base':Nat}{w:World}(hb:base'<=base):∀b,Nw base w b->Nw base' w b:=fun b ⟨h,k⟩=>⟨by omega,k⟩
theorem NI.row {base:Nat}{w w':World}{v:Value}{bs:Nat}{e:TypeId}{size n:Nat}{xs:List Value}(ho:w.ownsRow bs e size v n xs)(he:e≠aY)(hg:w.grownBy w' v.ownBlock):Same (NI base w) w w'/\∀b,NI base w b->NI base w' b:=by
 have key:∀b,NI base w b->w'.heap[b]? =w.heap[b]? :=fun b ⟨h,cs,k⟩=>hg.block b k.lt (fun e'=>by
  obtain⟨cur,hb⟩:=jK ho b e'.symm;exact he (bY hb k).1)
 exact⟨key,fun b hb=>by obtain⟨h,cs,k⟩:=hb;exact⟨h,cs,(key b ⟨h,cs,k⟩).trans k⟩⟩
theorem Sl.moved {α:Type}{R:Rel α}(ok:R.Ok){size:Nat}{w w':World}{S S':Bs}{A:Option Addr}{xs:List α}(h:Sl R size w S A xs)(k:Same S w w'/\∀b,S b->S' b):Sl R size w' S' A xs:=(h.keep ok k.1).mono ok k.2
theorem Fl.moved {α:Type}{R:Rel α}(ok:R.Ok){size:Nat}{w w':World}{S S':Bs}{cs:List Value}{xs:List α}(h:Fl R size w S cs xs)(k:Same S w w'/\∀b,S b->S' b):Fl R size w' S' cs xs:=(h.keep ok k.1).mono ok k.2
theorem Sl.rdM {α:Type}{R:Rel α}{size:Nat}{w:World}{S:Bs}{A:Option Addr}{xs:List α}(h:Sl R size w S A xs)(hS:∀b,S b->b<w.heap.size):∃cells,Fl R size w S cells xs/\Rd w w.heap.size A xs.length size cells:=by obtain⟨cells,h1,h2⟩:=h;refine⟨cells,h1,h1.1,fun h0=> ?_⟩;obtain⟨b,o,e,hb,hc⟩:=h2 h0;exact⟨b,o,e,hS b hb,hc⟩
theorem NI.lt {base:Nat}{w:World}:∀b,NI base w b->b<w.heap.size:=fun b ⟨_,_,k⟩=>k.lt
theorem Nw.lt {base:Nat}{w:World}:∀b,Nw base w b->b<w.heap.size:=fun b ⟨_,_,_,k,_⟩=>k.lt
theorem jH (w:World)(S:Bs)(l:List Int)(h:∀n∈l,I64 n):Fl anO 1 w S (aP l) l:=
 ⟨by simp[aP],fun k x hx=>⟨[.int .i64 x],⟨rfl,h x (aqt hx)⟩,rfl,fun j u hu=>by
  cases j with
  |zero=>simp at hu;subst hu;simp[aP,cI,hx]
  |succ j=>simp at hu⟩⟩
theorem tX {α:Type}{R:Rel α}{size:Nat}(w:World)(S:Bs)(f:α->List Value)(l:List α)(hs:∀x∈l,(f x).length=size)(hR:∀x∈l,R w S (f x) x):Fl R size w S (l.flatMap f) l:=by
 induction l with
 |nil=>exact Fl.nil
 |cons a r ih=>rw[aqD];exact(Fl.one (hR a (by simp)) (hs a (by simp))).append (ih (fun x hx=>hs x (by simp[hx])) (fun x hx=>hR x (by simp[hx])))
def VM (i:Ins):List Value:=[.int .i64 i.op,.int .i64 i.a]
def jU (p:List Ins):List Value:=p.flatMap VM
theorem Kv (w:World)(S:Bs)(p:List Ins)(h:∀i∈p,I64 i.op/\I64 i.a):Fl an5 2 w S (jU p) p:=tX w S VM p (fun _ _=>rfl) (fun x hx=>⟨rfl,h x hx⟩)
theorem Zn (a b:List Ins):jU (a++b)=jU a++jU b:=by simp[jU]
theorem XT (p:List Ins):∀u∈jU p,u.oneCell'=true:=by intro u hu;simp only[jU,aqZ,VM,aqx,aqV,or_false] at hu;obtain⟨p,_,rfl|rfl⟩:=hu<;>rfl
theorem XD (p:List Ins):(jU p).length=p.length*2:=by
 induction p with
 |nil=>rfl
 |cons a r ih=>simp only[jU,aqD,az,ay,VM,ln] at ih ⊢;omega
def ptM (p:Pt):List Value:=[.int .i64 p.x,.int .i64 p.y,.bool p.on]
def Dw (p:List Pt):List Value:=p.flatMap ptM
theorem aeT (w:World)(S:Bs)(p:List Pt)(h:∀i∈p,I64 i.x/\I64 i.y):Fl PtR 3 w S (Dw p) p:=tX w S ptM p (fun _ _=>rfl) (fun x hx=>⟨rfl,h x hx⟩)
theorem acE (a b:List Pt):Dw (a++b)=Dw a++Dw b:=by simp[Dw]
structure aoD (gl:Gl)(gs:List anP):Prop where
 at':∀(i:Nat) (g:anP),gs[i]? =some g->gl.lookup g.name=some i
 names:∀g∈gs,nameB g.name=true
theorem Az {gl:Gl}{gs:List anP}(h:aoD gl gs){n:Int}(hn:In gs.length n):gl.lookup (iI gs n)=some n.toNat/\nameB (iI gs n)=true:=by
 obtain⟨h1,h2⟩:=hn;have hlt:n.toNat<gs.length:=by omega
 have e:gs[n.toNat]? =some gs[n.toNat]:=aqn hlt;have e2:iI gs n=gs[n.toNat].name:=by unfold iI;rw[if_neg (by omega),e]
 rw[e2];exact⟨h.at' _ _ e,h.names _ (List.getElem_mem hlt)⟩
theorem CB {gl:Gl}{gs:List anP}(h:aoD gl gs){n:Int}(hn:In gs.length n)(e:Int):jE gl e (iI gs n)=e/\fM gl (iI gs n)=n:=by obtain⟨h1,-⟩:=Az h hn;obtain⟨h3,h4⟩:=hn;rw[jE,fM,h1];refine⟨by simp,?_⟩;simp;omega
theorem adC {gl:Gl}{gs:List anP}(h:aoD gl gs)(l:List Int)(hl:∀n∈l,In gs.length n)(e:Int):tY gl e (l.map (iI gs))=e/\(l.map (iI gs)).map (fM gl)=l:=by
 induction l generalizing e with
 |nil=>exact⟨rfl,rfl⟩
 |cons n r ih=>
  obtain⟨a1,a2⟩:=CB h (hl n (by simp)) e;obtain⟨b1,b2⟩:=ih (fun m hm=>hl m (by simp[hm])) e;refine⟨?_,?_⟩
  ·have:tY gl e ((n::r).map (iI gs))=tY gl (jE gl e (iI gs n)) (r.map (iI gs)):=rfl;rw[this,a1,b1]
  rw[aqv,aqv,a2,b2]
theorem S9 {gl:Gl}{cls:List (B×List Int)}{s:B}{n:Nat}(hs:nameB s=true)(hl:gl.lookup s=some n):mW gl cls s= .ok [(n:Int)]:=by
 unfold mW;split
 ·exact absurd rfl ((ZM hs 64 (by simp)).2.2.2.2.1)
 rw[hl]
theorem Sj {gl:Gl}{gs:List anP}(h:aoD gl gs)(cls:List (B×List Int))(s:List Int)(hs:∀n∈s,In gs.length n)(acc:List Int)(hl:acc.length+s.length<=1000):kZ gl cls acc (s.map (iI gs))= .ok (acc++s):=by
 induction s generalizing acc with
 |nil=>simp[kZ]
 |cons n r ih=>
  obtain⟨h1,h2⟩:=Az h (hs n (by simp));have h3:=(hs n (by simp)).1;rw[aqv,kZ,S9 h2 h1];have e:((n.toNat:Nat):Int)=n:=by omega
  simp only[e];rw[if_neg (by simp only[az,ay,ln] at hl ⊢;omega),ih (fun m hm=>hs m (by simp[hm])) _ (by simp only[az,ay,ln] at hl ⊢;omega)];simp
theorem wZ {gl:Gl}{gs:List anP}(h:aoD gl gs)(cls:List (B×List Int))(l:List (List Int))(hl:∀s∈l,(∀n∈s,In gs.length n)/\s.length<=1000):jg gl cls (l.map (fun s=>s.map (iI gs)))= .ok l:=by
 induction l with
 |nil=>rfl
 |cons s r ih=>obtain⟨h1,h2⟩:=hl s (by simp);rw[aqv,jg,Sj h cls s h1 [] (by simpa using h2),ih (fun x hx=>hl x (by simp[hx]))];simp
theorem ack (names:List B)(hn:∀w∈names,w≠[91]/\w≠[93])(row:List B)(told:List (List B))(rest:List B):fE true row told (names++[93]::rest)=fE false [] (told++[row++names]) rest:=by
 induction names generalizing row with
 |nil=>simp[fE]
 |cons w r ih=>obtain⟨h1,h2⟩:=hn w (by simp);rw[aqC,fE,if_neg h1,if_neg h2,if_pos rfl,ih (fun x hx=>hn x (by simp[hx]))];simp
theorem Jb {s:B}(h:nameB s=true):s≠[91]/\s≠[93]/\s≠[47]/\s≠[62]:=by refine⟨?_,?_,?_,?_⟩<;>(rintro rfl;revert h;decide)
theorem xH (ws:List B)(hw:∀w∈ws,w≠[47]/\w≠[62])(n:Nat)(cur:List B)(told:List (List B))(rest:List B):gq n cur told (ws++rest)=gq n (cur++ws) told rest:=by
 induction ws generalizing cur with
 |nil=>simp
 |cons w r ih=>rw[aqC,gq,if_pos (hw w (by simp)),ih (fun x hx=>hw x (by simp[hx]))];simp
theorem abr (a b c d:List B)(ha:∀w∈a,w≠[47]/\w≠[62])(hb:∀w∈b,w≠[47]/\w≠[62])(hc:∀w∈c,w≠[47]/\w≠[62])(hd:∀w∈d,w≠[47]/\w≠[62]):
  pR (a++[47]::b++[47]::c++[62]::d)=some [a,b,c,d]:=by
 have e:a++[47]::b++[47]::c++[62]::d=a++([47]::(b++([47]::(c++([62]::(d++[])))))):=by simp
 rw[e,pR,xH a ha,gq,if_neg (by simp),if_pos (by simp),xH b hb,gq,if_neg (by simp),if_pos (by simp),xH c hc,gq,if_neg (by simp),if_pos (by simp),xH d hd,gq];simp
theorem V9 (n:Int)(s:List Int)(h:∀x∈s,n<x):lQ n s=n::s:=by
 cases s with
 |nil=>rfl
 |cons x r=>rw[lQ,if_pos (h x (by simp))]
theorem Qe (s:List Int)(h:s.Pairwise (· < ·)):setOf s=s:=by
 induction s with
 |nil=>rfl
 |cons n r ih=>obtain⟨h1,h2⟩:=List.pairwise_cons.1 h;have e:setOf (n::r)=lQ n (setOf r):=rfl;rw[e,ih h2,V9 n r h1]
theorem Ub {n:Nat}{s:List Int}(h:Pq n s):s.length<=n:=by
 obtain⟨h1,h2⟩:=h
 suffices key:∀(s:List Int) (lo:Int),s.Pairwise (· < ·)->(∀x∈s,lo<=x/\x<n)->(s.length:Int)<=max 0 (n - lo) by have:=key s 0 h1 (fun x hx=>h2 x hx);omega
 intro s;induction s with
 |nil=>intro lo _ _;simp;omega
 |cons x r ih=>intro lo hp hr;obtain⟨h3,h4⟩:=List.pairwise_cons.1 hp;have h5:=hr x (by simp);have:=ih (x+1) h4 (fun y hy=>⟨by have:=h3 y hy;omega,(hr y (by simp[hy])).2⟩);simp only[ay];omega
theorem En {s:List Int}(h:s.Pairwise (· < ·)):s.Nodup:=h.imp (fun hab e=>by omega)
theorem ad2 (s out:List Int)(hn:s.Nodup)(hl:out.length=s.length):s.map (fun g=>out.getD (s.idxOf g) 0)=out:=by
 apply List.ext_getElem (by simp[hl]);intro i h1 h2;rw[List.getElem_map];have h3:i<s.length:=by simpa using h1
 rw[List.Nodup.idxOf_getElem hn i h3];simp[List.getD,h2]
theorem CP (s out:List Int)(hs:s.Pairwise (· < ·))(hl:out.length=s.length):eu s out= .ok out:=by rw[eu,if_neg (by simpa using En hs),if_neg (by simpa using hl),Qe s hs,ad2 s out (En hs) hl]
theorem KX (c:Call)(h:N9 c.at'/\N9 c.lookup)(e:Int):mQ e (aN c.at'++58::aN c.lookup)=e/\jW (aN c.at'++58::aN c.lookup)=c/\(aN c.at'++58::aN c.lookup).count 58=1/\cO (aN c.at'++58::aN c.lookup)=true:=by
 obtain⟨h1,h2⟩:=h;have n1:∀d∈aN c.at',d≠58:=fun d hd=>(iR (qF _ d hd)).2.1
 have n2:∀d∈aN c.lookup,d≠58:=fun d hd=>(iR (qF _ d hd)).2.1
 obtain⟨c1,c2⟩:=Pi (b:=aN c.lookup) n1;refine⟨?_,?_,?_,?_⟩
 ·rw[mQ,c1,c2,gU _ h1,gU _ h2]
 ·rw[jW,c1,c2,(eP _ h1).2,(eP _ h2).2]
 ·rw[List.count_append,List.count_cons,count_none n1,count_none n2];simp
 simp only[cO,aqK,Bool.not_eq_true',List.isEmpty_eq_false_iff,aqW,aqp,aqx];refine⟨by simp,fun d hd=> ?_⟩;rcases hd with hd|rfl|hd
 ·exact(iR (qF _ d hd)).1
 ·decide
 exact(iR (qF _ d hd)).1
theorem Xn (l:List Call)(h:∀c∈l,N9 c.at'/\N9 c.lookup)(e:Int):(l.map (fun c=>aN c.at'++58::aN c.lookup)).foldl mQ e=e/\(l.map (fun c=>aN c.at'++58::aN c.lookup)).map jW=l/\
  yN (l.map (fun c=>aN c.at'++58::aN c.lookup))=true/\∀w∈l.map (fun c=>aN c.at'++58::aN c.lookup),cO w=true:=by
 induction l generalizing e with
 |nil=>exact⟨rfl,rfl,rfl,by simp⟩
 |cons c r ih=>
  obtain⟨a1,a2,a3,a4⟩:=KX c (h c (by simp)) e;obtain⟨b1,b2,b3,b4⟩:=ih (fun d hd=>h d (by simp[hd])) e;refine⟨?_,?_,?_,?_⟩
  ·rw[aqv,aqN,a1,b1]
  ·rw[aqv,aqv,a2,b2]
  ·unfold yN at b3 ⊢;rw[aqv,List.all_cons,b3,a3];rfl
  intro w hw;rw[aqv,aqx] at hw;rcases hw with rfl|hw
  ·exact a4
  exact b4 w hw
theorem ahz (w:World)(b:UInt8):(convert 68 9 (.slice (some ⟨w.heap.size,0,none⟩) 1 1)).run Tryz.prog (w.alloc (.cells #[.int .u8 b.toNat] 5))= .ok (.string ⟨#[b]⟩) (w.alloc (.cells #[.int .u8 b.toNat] 5)):=
 run_convert_bytes_back (w.alloc (.cells #[.int .u8 b.toNat] 5)) 68 9 5 ⟨w.heap.size,0,none⟩ 1 [b] Tryz.underlying68 Tryz.underlying5 Tryz.underlying9 (fun j hj=>by
  obtain rfl:j=0:=by simpa using hj
  rw[addr_add];exact(Bk.new w 5 #[.int .u8 b.toNat]).cell 0)
theorem dN (a b:B):(ByteArray.mk a.toArray)++⟨b.toArray⟩=⟨(a++b).toArray⟩:=by apply ByteArray.ext;rw[ByteArray.data_append];apply Array.ext';simp
def iY (n:Nat):UInt8:=UInt8.ofNat (48+n % 10)
theorem aeg (n:Nat):(iY n).toNat=48+n % 10:=by rw[iY,UInt8.toNat_ofNat'];omega
def fZ (u:Nat):B:=if _h:u<10 then [iY u] else fZ (u / 10)++[iY u]
termination_by u
decreasing_by omega
theorem xY (w:World)(n:Int)(u:Nat)(h:n=48+(u:Int) % 10):(convert 68 9 (.slice (some ⟨w.heap.size,0,none⟩) 1 1)).run Tryz.prog (w.alloc (.cells #[.int .u8 n] 5))= .ok (.string ⟨#[iY u]⟩) (w.alloc (.cells #[.int .u8 n] 5)):=by
 have:=ahz w (iY u);rw[aeg] at this;rw[h];have e:(48+(u:Int) % 10)=((48+u % 10:Nat):Int):=by omega
 rw[e];exact this
def lq (q:Nat):B:=if q=0 then [] else fZ q
theorem EQ (q:Nat)(h:0<q):lq q=lq (q / 10)++[iY q]:=by
 rw[lq,if_neg (by omega),fZ];split
 ·rw[lq,if_pos (by omega)];rfl
 rw[lq,if_neg (by omega)]
theorem zX (U:Nat):fZ U=lq (U / 10)++[iY U]:=by
 rw[fZ];split
 ·rw[lq,if_pos (by omega)];rfl
 rw[lq,if_neg (by omega)]
theorem Qu (k:Nat):∀u,u<10 ^ (k+1)->(fZ u).length<=k+1:=by
 induction k with
 |zero=>intro u hu;rw[fZ,dif_pos (by simpa using hu)];simp
 |succ k ih=>
  intro u hu;rw[fZ];split
  ·simp
  have:=ih (u / 10) (by rw[OO] at hu;omega);rw[az];simp;omega
theorem zK (u:Nat):fZ u=Lib.decDigits u:=by
 induction u using Nat.strongRecOn with
 |_ u ih=>
  rw[fZ,Lib.decDigits];split
  ·rename_i h;rw[iY,Nat.mod_eq_of_lt h]
  rw[ih (u / 10) (by omega)];rfl
end
end Go.Proofs.YtkijckccfookeaaGreatDoor
