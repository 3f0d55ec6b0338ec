/- The contract of words.Lines. -/
import Derived.Test.YtkijckccfookeaaGreatDoorV06
import Derived.Test.YtkijckccfookeaaGreatDoorShelf
set_option linter.unusedVariables false
set_option linter.unusedSimpArgs false
set_option maxRecDepth 100000
set_option maxHeartbeats 32000000
namespace Go.Proofs.YtkijckccfookeaaGreatDoor
section
open Go.RowKit Go.Shelf
attribute [local go_sem] Oper.semAt_some
attribute [-go_sem] Builtin.append_
theorem Zz:(Tryz.prog.info? 119).map (fun i=>(i.zero,i.size,i.bytes))=some (some (.slice none 0 0),1,24):=by kernel_rfl
theorem Xa (w:World)(s:B):Calls Tryz.prog 70 #[.string ⟨s.toArray⟩,.string ⟨#[10]⟩] w fun e w'=>
  e= .returned (.func (.func 160) #[] #[.pointer (some ⟨w.heap.size+1,0,none⟩),.pointer (some ⟨w.heap.size,0,none⟩),.pointer (some ⟨w.heap.size+1+1,0,none⟩)])/\
   w'=((w.alloc (.cells #[.string ⟨s.toArray⟩] 9)).alloc (.cells #[.string ⟨#[10]⟩] 9)).alloc (.cells #[.int .i64 0] 3):=by
 go_enter Tryz.func70,Tryz.ntmps70
 go_wp2;go_ret
 exact⟨rfl,rfl⟩
def WI (w:World)(pre:List Ln)(W:World):Prop:=
 Bk W (w.heap.size+1) 3 #[.int .i64 pre.length]/\(∃z,Bk W (w.heap.size+1+1) 9 #[z])/\
  (∃A c hs,Bk W w.heap.size 109 #[.slice A hs.length c]/\W.ownsRow (w.heap.size+5) 119 1 (.slice A hs.length c) hs.length hs/\RowsIn 124 W hs (bF 1 (pre.map (·.1))))/\
  Below w.heap.size w W/\w.heap.size+5<=W.heap.size
theorem UU {A C:World}{row:Option Nat}(hg:A.grownBy C row)(hr:∀r,row=some r->∃o:Obj,A.heap[r]? =some o/\o.isCells=false){base e size n:Nat}{v:Value}{xs:List Value}(h:A.ownsRow base e size v n xs):C.ownsRow base e size v n xs:=by
 refine h.kept hg ?_;rcases h.2 with⟨rfl,_⟩|⟨g,cap,cur,rfl,_,hh,_⟩
 ·exact .inl rfl
 refine .inr (fun e=> ?_);obtain⟨o,ho,hc⟩:=hr g e.symm;rw[hh] at ho;cases ho;cases hc
theorem aad (w:World)(B:Nat)(hB:w.heap.size<=B):OwnFrom B (WI w):=by
 intro s A C row hs hg hr;obtain⟨h1,⟨z,h2⟩,⟨A1,c1,hs1,h3,h4,h5⟩,h6,h7⟩:=hs;have hr':∀r,row=some r->∃o:Obj,A.heap[r]? =some o/\o.isCells=false:=fun r e=>(hr r e).2
 refine⟨(grownBy_keeps_cells hg hr' h1 rfl).trans h1,⟨z,(grownBy_keeps_cells hg hr' h2 rfl).trans h2⟩,⟨A1,c1,hs1,(grownBy_keeps_cells hg hr' h3 rfl).trans h3,UU hg hr' h4,h5.kept fun _ _ _ hrd=>hrd.other hg hr'⟩,?_,nt h7 hg.size⟩;exact h6.grown hg h6.size (fun k e=>nt hB (hr k e).1)
theorem Cc {w:World}{t t':TypeId}{A:Option Addr}{n size g:Nat}{cs:List Value}{cur:Array Value}(h:RdT w t A n size cs)(hb:Bk w g t' cur)(hne:t≠t')(i:Nat)(u:Value):RdT (w.setCell ⟨g,i,none⟩ u) t A n size cs:=h.grown (dL (p:=⟨g,i,none⟩) (World.grownBy.refl _ _) (.inl rfl) _) (fun r e=>by cases e;exact⟨cur,t',hb,hne⟩)
theorem XV (w:World)(pre:List Ln)(W:World)(v:Value)(h:WI w pre W):WI w pre (W.setCell ⟨w.heap.size+1+1,0,none⟩ v):=by obtain⟨h1,⟨z,h2⟩,⟨A1,c1,hs1,h3,h4,h5⟩,h6,h7⟩:=h;refine⟨h1.far (by simp) _,⟨v,h2.set 0 _⟩,⟨A1,c1,hs1,h3.far (by simp<;>omega) _,ownsRow_setCell_below h4 (by simp<;>omega) _,h5.kept fun _ _ _ hrd=>Cc hrd h2 (by decide) 0 v⟩,h6.setCell (by simp;omega) _,by simpa using h7⟩
theorem Og {h:Nat}{W W':World}(hk:∀b,h<=b->b<h+3->W'.heap[b]? =W.heap[b]?):aiu (QL h) W W':=by
 rintro b (rfl|rfl|rfl) o ho -
 ·rw[hk _ (by omega) (by omega)];exact ho
 ·rw[hk _ (by omega) (by omega)];exact ho
 rw[hk _ (by omega) (by omega)];exact ho
theorem Zw (w W w2:World)(pre:List Ln)(x:Ln)(hI:WI w pre W)(hz:one x.1=[])(hb:Below (W.setCell ⟨w.heap.size+1,0,none⟩ (.int .i64 ((pre.length:Int)+1))).heap.size (W.setCell ⟨w.heap.size+1,0,none⟩ (.int .i64 ((pre.length:Int)+1))) w2):
  WI w (pre++[x]) w2/\aiu (QL (w.heap.size+1+1)) W w2/\KeepsOthers W w2:=by
 obtain⟨h1,⟨z,h2⟩,⟨A1,c1,hs1,h3,h4,h5⟩,h6,h7⟩:=hI;have hsz:(W.setCell ⟨w.heap.size+1,0,none⟩ (.int .i64 ((pre.length:Int)+1))).heap.size=W.heap.size:=by simp
 rw[hsz] at hb;have e1:=h1.set 0 (.int .i64 ((pre.length:Int)+1));have hblk:∀b,b<W.heap.size->w2.heap[b]? =_:=fun b hb'=>hb.block b hb'
 refine⟨⟨?_,⟨z,?_⟩,⟨A1,c1,hs1,?_,?_,?_⟩,?_,?_⟩,?_,?_⟩
 ·have:=(hblk _ h1.lt).trans e1;simpa [Bk] using this
 ·exact(hblk _ h2.lt).trans (h2.far (by simp) _)
 ·exact(hblk _ h3.lt).trans (h3.far (by simp) _)
 ·refine own_below (ownsRow_setCell_below h4 (a:=⟨w.heap.size+1,0,none⟩) (by simp) (.int .i64 ((pre.length:Int)+1))) ?_;rw[hsz];exact hb
 ·rw[akY,akv,ak9,wY,if_pos hz,akR];refine h5.kept fun _ _ _ hrd=>(Cc hrd h1 (by decide) 0 (.int .i64 ((pre.length:Int)+1))).below ?_
  rw[hsz];exact hb
 ·exact(h6.setCell (by simp) _).trans (hb.mono (by omega))
 ·have:=hb.size;rw[hsz] at this;omega
 ·exact Og fun b hb1 hb2=>(hblk b (by omega)).trans (Below.heap_setCell _ _ _ _ (by simp;omega))
 refine(KeepsOthers.setCell W _ _).trans ⟨hb.size,fun j o hj _=> ?_⟩;exact(hb.block j (by have:=(akp.1 hj).1;rw[hsz] at this;exact this)).trans hj
theorem Zu (w W w2:World)(pre:List Ln)(x:Ln)(A0 A2:Option Addr)(c0 c2:Nat)(hs0:List Value)(hl:pre.length<=800000000)(h1:Bk W (w.heap.size+1) 3 #[.int .i64 pre.length])(h2:∃z,Bk W (w.heap.size+1+1) 9 #[z])
  (h3:Bk W w.heap.size 109 #[.slice A0 hs0.length c0]) (h4:W.ownsRow (w.heap.size+5) 119 1 (.slice A0 hs0.length c0) hs0.length hs0) (h5:RowsIn 124 W hs0 (bF 1 (pre.map (·.1)))) (h6:Below w.heap.size w W) (h7:w.heap.size+5<=W.heap.size)
  (hz:one x.1≠[]) (hb:Below (W.setCell ⟨w.heap.size+1,0,none⟩ (.int .i64 ((pre.length:Int)+1))).heap.size (W.setCell ⟨w.heap.size+1,0,none⟩ (.int .i64 ((pre.length:Int)+1))) w2)
  (hown:w2.ownsRow (W.setCell ⟨w.heap.size+1,0,none⟩ (.int .i64 ((pre.length:Int)+1))).heap.size 124 3 (.slice A2 (one x.1).length c2) (one x.1).length (dA (num (pre.length+1) (one x.1)))):
  ∃A3 c3 w3,(Builtin.append_ #[109,109] 109 #[.slice A0 hs0.length c0,.slice (some ⟨w2.heap.size,0,none⟩) 1 1]).run Tryz.prog (w2.alloc (.cells #[.slice A2 (one x.1).length c2] 119))= .ok (.slice A3 (hs0.length+1) c3) w3/\
   w2.cell? ⟨w.heap.size,0,none⟩=some (.slice A0 hs0.length c0)/\w3.cell? ⟨w.heap.size,0,none⟩=some (.slice A0 hs0.length c0)/\w3.frozen? ⟨w.heap.size,0,none⟩=false/\
   WI w (pre++[x]) (w3.setCell ⟨w.heap.size,0,none⟩ (.slice A3 (hs0.length+1) c3))/\aiu (QL (w.heap.size+1+1)) W (w3.setCell ⟨w.heap.size,0,none⟩ (.slice A3 (hs0.length+1) c3))/\KeepsOthers W (w3.setCell ⟨w.heap.size,0,none⟩ (.slice A3 (hs0.length+1) c3)):=by
 obtain⟨i0,hi0,hz0,hz1,hz2⟩:=info_parts Zz;obtain⟨z,h2⟩:=h2;have hsz:(W.setCell ⟨w.heap.size+1,0,none⟩ (.int .i64 ((pre.length:Int)+1))).heap.size=W.heap.size:=by simp
 rw[hsz] at hb;rw[hsz] at hown;have hhl:hs0.length<=800000000:=by have a1:=h5.1;have a2:=yX 1 (pre.map (·.1));rw[aks] at a2;omega
 have hbs:W.heap.size<=w2.heap.size:=by have:=hb.size;rw[hsz] at this;exact this
 have hblk:∀b,b<W.heap.size->w2.heap[b]? =_:=fun b hb'=>hb.block b hb'
 have hbW:∀b,b<W.heap.size->b≠w.heap.size+1->w2.heap[b]? =W.heap[b]? :=fun b hb' hne=>(hblk b hb').trans (Below.heap_setCell _ _ _ _ (by simpa using hne))
 have q4:w2.ownsRow (w.heap.size+5) 119 1 (.slice A0 hs0.length c0) hs0.length hs0:=by refine own_below (ownsRow_setCell_below h4 (a:=⟨w.heap.size+1,0,none⟩) (by simp) (.int .i64 ((pre.length:Int)+1))) ?_;rw[hsz];exact hb
 have q5:RowsIn 124 w2 hs0 (bF 1 (pre.map (·.1))):=by
  refine h5.kept fun _ _ _ hrd=>(Cc hrd h1 (by decide) 0 (.int .i64 ((pre.length:Int)+1))).below ?_
  rw[hsz];exact hb
 have q1:Bk w2 (w.heap.size+1) 3 #[.int .i64 ((pre.length:Int)+1)]:=(hblk _ h1.lt).trans (h1.set 0 _);have q2:Bk w2 (w.heap.size+1+1) 9 #[z]:=(hbW _ (by omega) (by omega)).trans h2;have q3:Bk w2 w.heap.size 109 #[.slice A0 hs0.length c0]:=(hbW _ (by omega) (by omega)).trans h3;have q6:Below w.heap.size w w2:=(h6.setCell (by simp) _).trans (hb.mono (by omega));obtain⟨v3,w3,hrun,hown3,hg,hat⟩:=oC (P:=Tryz.prog) (w2.alloc (.cells #[.slice A2 (one x.1).length c2] 119)) (w.heap.size+5) 109 109 119 i0 _ 1 24 Tryz.underlying109 hi0 hz0 hz1 hz2 rfl (by decide) (.slice A0 hs0.length c0) hs0.length _ (q4.alloc _) (w2.heap.size+1) (some ⟨w2.heap.size,0,none⟩) 1 1 [.slice A2 (one x.1).length c2] (Rd.new w2 #[.slice A2 (one x.1).length c2] 119 1 1 rfl) (by simp[Value.oneCell']) (by simp only[maxLen];omega) (by omega) (by simp;omega);obtain⟨A3,c3,rfl,-⟩:=Rd.ail hown3;have hlow:∀k,k<w.heap.size+5->some k≠(Value.slice A0 hs0.length c0).ownBlock:=fun k hk e=>by have:=(q4.lt k e.symm).1;omega
 have yC:∀k,k<w.heap.size+5->w3.heap[k]? =w2.heap[k]? :=fun k hk=>(hg.block k (by simp;omega) (hlow k hk)).trans (Below.heap_alloc _ _ _ (by omega))
 have x3:Bk w3 w.heap.size 109 #[.slice A0 hs0.length c0]:=(yC _ (by omega)).trans q3;have s3:w2.heap.size+1<=w3.heap.size:=by have:=hg.size;simpa using this
 refine⟨A3,c3,w3,hrun,q3.cell 0,x3.cell 0,x3.frozen 0,⟨?_,⟨z,?_⟩,⟨A3,c3,hs0++[.slice A2 (one x.1).length c2],?_,?_,?_⟩,?_,?_⟩,?_,?_⟩
 ·have:=Bk.far (p:=⟨w.heap.size,0,none⟩) ((yC _ (by omega)).trans q1) (by simp) (.slice A3 (hs0.length+1) c3);simpa using this
 ·exact Bk.far ((yC _ (by omega)).trans q2) (by simp;omega) _
 ·have:=x3.set 0 (.slice A3 (hs0.length+1) c3);simpa using this
 ·have:=ownsRow_setCell_below hown3 (a:=⟨w.heap.size,0,none⟩) (by simp) (.slice A3 (hs0.length+1) c3);simpa using this
 ·rw[akY,akv,ak9,wY,if_neg hz,aks];have hrd:RdT w2 124 A2 (one x.1).length 3 (dA (num (pre.length+1) (one x.1))):=jf hown;have a1:=((q5.snoc hrd (c:=c2) (xu hown)).alloc (.cells #[.slice A2 (one x.1).length c2] 119)).grown (q4.alloc _) hg (by decide);exact a1.kept fun _ _ _ hr=>Cc hr x3 (by decide) 0 _
 ·exact((q6.alloc q6.size _).grown hg (by simp;omega) (fun g hg'=>by have:=(q4.lt g hg').1;omega)).setCell (by simp) _
 ·simp;omega
 ·exact Og fun b hb1 hb2=>(Below.heap_setCell _ _ _ _ (by simp;omega)).trans ((yC b (by omega)).trans (hbW b (by omega) (by omega)))
 refine KeepsOthers.trans (KeepsOthers.trans (KeepsOthers.trans (KeepsOthers.trans (KeepsOthers.setCell W _ _) ⟨hb.size,fun j o hj _=> ?_⟩) (KeepsOthers.alloc w2 _)) (KeepsOthers.of_grownBy hg (fun j o hj ho=> ?_))) (KeepsOthers.setCell _ _ _)
 ·exact(hb.block j (by have:=(akp.1 hj).1;rw[hsz] at this;exact this)).trans hj
 obtain⟨cur,hk⟩:=oO (q4.alloc (.cells #[.slice A2 (one x.1).length c2] 119)) j hj;have hk2:(w2.alloc (.cells #[.slice A2 (one x.1).length c2] 119)).heap[j]? =_:=hk;rw[hk2] at ho;cases ho;rfl
theorem XK (w:World)(s:B)(hs:s.length<=800000000):Calls Tryz.prog 38 #[.string ⟨s.toArray⟩] w fun e w'=>∃v,e= .returned v/\uq 124 119 w w' (fJ s) v:=by
 refine(callsIn_wide (n:=20)).1 ?_;refine callsIn_of_wp_marks Tryz.func38 rfl trivial ?_ rfl;simp only[Tryz.ntmps38,List.size_toArray,aF,ln,Nat.reduceAdd,Nat.reduceSub,Array.replicate_succ,Array.replicate_zero,List.push_toArray,List.append_toArray,akX,akC]
 gi_wp2_with fail
 refine⟨trivial,?_⟩;refine(callsIn_wide.2 (Xa _ s)).mono ?_;rintro e w6 ⟨rfl,hw6⟩;have g0:Bk w6 w.heap.size 109 #[.slice none 0 0]:=by rw[hw6];exact((((Bk.new w 109 _).alloc _).alloc _).alloc _).alloc _
 have g1:Bk w6 (w.heap.size+1) 3 #[.int .i64 0]:=by rw[hw6];have:=(((Bk.new (w.alloc (.cells #[.slice none 0 0] 109)) 3 #[.int .i64 0]).alloc (.cells #[.string ⟨s.toArray⟩] 9)).alloc (.cells #[.string ⟨#[10]⟩] 9)).alloc (.cells #[.int .i64 0] 3);simp only[World.size_alloc] at this;exact this
 have g2:Bk w6 (w.heap.size+1+1) 9 #[.string ⟨s.toArray⟩]:=by rw[hw6];have:=((Bk.new ((w.alloc (.cells #[.slice none 0 0] 109)).alloc (.cells #[.int .i64 0] 3)) 9 #[.string ⟨s.toArray⟩]).alloc (.cells #[.string ⟨#[10]⟩] 9)).alloc (.cells #[.int .i64 0] 3);simp only[World.size_alloc] at this;exact this
 have g3:Bk w6 (w.heap.size+1+1+1) 9 #[.string ⟨#[10]⟩]:=by rw[hw6];have:=(Bk.new (((w.alloc (.cells #[.slice none 0 0] 109)).alloc (.cells #[.int .i64 0] 3)).alloc (.cells #[.string ⟨s.toArray⟩] 9)) 9 #[.string ⟨#[10]⟩]).alloc (.cells #[.int .i64 0] 3);simp only[World.size_alloc] at this;exact this
 have g4:Bk w6 (w.heap.size+1+1+1+1) 3 #[.int .i64 0]:=by rw[hw6];have:=Bk.new ((((w.alloc (.cells #[.slice none 0 0] 109)).alloc (.cells #[.int .i64 0] 3)).alloc (.cells #[.string ⟨s.toArray⟩] 9)).alloc (.cells #[.string ⟨#[10]⟩] 9)) 3 #[.int .i64 0];simp only[World.size_alloc] at this;exact this
 have hb6:Below w.heap.size w w6:=by rw[hw6];exact(((((akl _ w).alloc (nr _) _).alloc (by simp) _).alloc (by simp;omega) _).alloc (by simp;omega) _).alloc (by simp;omega) _
 have hs6:w6.heap.size=w.heap.size+5:=by rw[hw6];simp
 simp only[World.size_alloc];have Hit:=hd0 (Ua w6 (w.heap.size+1+1) s hs g2 g3 g4);have hI0:Hid (WI w [] w6):=⟨g1,⟨_,g2⟩,⟨none,0,[],g0,⟨rfl,.inl ⟨rfl,rfl⟩⟩,RowsIn.nil _ _⟩,hb6,by omega⟩
 clear hw6 g0 g1 g2 g3 g4 hb6
 gi_wp2_with fail
 refine EY (n:=20) (cs:=w.heap.size+1+1) (gf:=160) (lb:= #[.pointer (some ⟨w.heap.size+1+1+1,0,none⟩),.pointer (some ⟨w.heap.size+1+1,0,none⟩),.pointer (some ⟨w.heap.size+1+1+1+1,0,none⟩)]) (by omega) rfl (enters_of Tryz.func160 (by kernel_rfl) rfl) (fun _=>rfl) Hit.out (Bx:=fun _=>False) (fun _ _ h=>h)
  (fun h k=>h.trans k) (fun W l o o' h hc=>aiu.put W l o o' h hc) (fun xs W l o o' h _ _=>h) (WI w) (aad w _ (by omega)) (XV w) hI0.out
  (fun x=> {tmps:= #[.string ⟨s.toArray⟩,undef,.slice none 0 0,.pointer (some ⟨w.heap.size,0,none⟩),.pointer (some ⟨w.heap.size+1,0,none⟩),.string ⟨x.1.toArray⟩,undef,.string ⟨s.toArray⟩,.func (.func 160) #[] #[.pointer (some ⟨w.heap.size+1+1+1,0,none⟩),.pointer (some ⟨w.heap.size+1+1,0,none⟩),.pointer (some ⟨w.heap.size+1+1+1+1,0,none⟩)],.string ⟨x.1.toArray⟩,undef,undef,undef,undef,undef,undef,undef,undef,undef,undef,undef,undef,undef],defers:=[]}) ?assign ?body ?done
 case assign=>
  intro l x W K hK;simp only[Jq]
  gi_wp2
  exact hK
 case body=>
  rintro l pre x W hI hlen;have HI:=hd0 hI;obtain⟨h1,h2,⟨A0,c0,hs0,h3,h4,h5⟩,h6,h7⟩:=hI;have k1:W.cell? ⟨w.heap.size+1,0,none⟩=some (.int .i64 pre.length):=h1.cell 0;have f1:=h1.frozen 0;have hsp:Calls Tryz.prog 71 #[.string ⟨x.1.toArray⟩,.int .i64 ((pre.length:Int)+1)] (W.setCell ⟨w.heap.size+1,0,none⟩ (.int .i64 ((pre.length:Int)+1))) (Be (W.setCell ⟨w.heap.size+1,0,none⟩ (.int .i64 ((pre.length:Int)+1))) x.1 (pre.length+1)):=by
   have e:((pre.length:Int)+1)=((pre.length+1:Nat):Int):=by omega
   rw[e];exact split_ok _ x.1 (pre.length+1) x.2
  have Hsp:=hd0 hsp;clear hsp
  gi_wp2_with fail
  refine⟨trivial,rfl,?_⟩;refine(CallsIn.inRound l (callsIn_wide.2 Hsp.out)).mono ?_;rintro e w2 ⟨v2,rfl,hown2,hb2⟩;obtain⟨A2,c2,rfl,-⟩:=Rd.ail hown2;by_cases hz:one x.1=[]
  ·have Hp:=hd0 (Zw w W w2 pre x HI.out hz hb2);have hz0:¬0<(one x.1).length:=by simp[hz]
   clear hz hown2 hb2
   gi_wp2_with fail
   exact Hp.out
  obtain⟨A3,c3,w3,hrun3,hq2,hq3,hf3,hpost⟩:=Zu w W w2 pre x A0 A2 c0 c2 hs0 (by omega) h1 h2 h3 h4 h5 h6 h7 hz hb2 hown2;have Hp:=hd0 hpost;have hz0:0<(one x.1).length:=ale.2 hz;clear hz hown2 hb2 hpost
  gi_wp2_with fail
  exact Hp.out
 case done=>
  rintro D xs W hD hS hI hK;obtain⟨h1,h2,⟨A0,c0,hs0,h3,h4,h5⟩,h6,h7⟩:=hI;have k0:W.cell? ⟨w.heap.size,0,none⟩=some (.slice A0 hs0.length c0):=h3.cell 0;have HS:=hd0 hS;clear hS
  gi_wp2_with fail
  refine⟨by simp,.inl ⟨_,_,rfl,run_takeDeferred hK,?_⟩⟩;have hl:hs0.length=(fJ s).length:=by rw[h5.1,fJ,HS.out]
  refine⟨.slice A0 hs0.length c0,by simp[results,Tryz.results38,go_sem],_,rfl,A0,c0,hs0,by rw[hl],?_,?_,?_⟩
  ·rw[<-hl];exact jf (ownsRow_putObj h4 (.deferred none) hK rfl)
  ·rw[fJ,<-HS.out];exact h5.kept fun _ _ _ hr=>hr.other (grownBy_putObj' W D _) (fun q hq=>by cases hq;exact⟨_,hK,rfl⟩)
  exact h6.trans (belowK_b (w:=w) (nr _) W D _ _ (by omega) hK rfl rfl)
end
section
open Go.RowKit
abbrev Rdr (w:World)(rb p:Nat)(err:Int):Prop:=Bk w rb Jw #[.pointer (some ⟨p,0,none⟩),.int .i64 err]
theorem bZ {a b c:World}{row:Option Nat}(h:a.grownBy b row)(k:b.grownBy c row):a.grownBy c row:=⟨k.os.trans h.os,k.tape.trans h.tape,k.output.trans h.output,nt h.size k.size,fun i hi hne=>(k.block i (aku hi h.size) hne).trans (h.block i hi hne)⟩
theorem IC {a b c:World}{row r2:Option Nat}(h:a.grownBy b row)(k:b.grownBy c r2)(hr:∀g,r2=some g->a.heap.size<=g):a.grownBy c row:=⟨k.os.trans h.os,k.tape.trans h.tape,k.output.trans h.output,nt h.size k.size,fun i hi hne=>(k.block i (aku hi h.size) (fun e=>by have:=hr i e.symm;omega)).trans (h.block i hi hne)⟩
def eC (err c:Int):Int:=if err=0 then c else err
theorem qy (w:World)(rb p:Nat)(err c:Int)(h:Rdr w rb p err):
  Calls Tryz.prog 164 #[.pointer (some ⟨rb,0,none⟩),.int .i64 c] w fun e w'=>e= .returned (.tuple #[])/\Rdr w' rb p (eC err c)/\w.grownBy w' (some rb):=by
 have c1:w.cell? ⟨rb,1,none⟩=some (.int .i64 err):=h.cell 1;have f1:w.frozen? ⟨rb,1,none⟩=false:=h.frozen 1;have H:=hd0 h;clear h;by_cases h0:err=0
 ·subst h0;go_enter Tryz.func164,Tryz.ntmps164
  go_wp2
  go_end0
  exact⟨rfl,H.out.set 1 _,dC w ⟨rb,1,none⟩ _⟩
 have e0:(err==0)=false:=by simpa using h0
 have e1:Hid (eC err c=err):=by show _=_;rw[eC,if_neg h0]
 clear h0;go_enter Tryz.func164,Tryz.ntmps164
 go_wp2
 go_end0
 rw[e1.out];exact⟨rfl,H.out,World.grownBy.refl _ _⟩
def RdP (w:World)(rb p:Nat)(err:Int)(v:Value)(e:Ending)(w':World):Prop:=e= .returned v/\Rdr w' rb p err/\w.grownBy w' (some rb)
theorem Rdr.below {w w':World}{rb p:Nat}{err:Int}(h:Rdr w rb p err)(hb:Below w.heap.size w w'):Rdr w' rb p err:=(hb.block rb h.lt).trans h
theorem wZ {w w':World}(hb:Below w.heap.size w w')(row:Option Nat):w.grownBy w' row:=aC hb row
theorem below_grown {a b c:World}{row:Option Nat}(hb:Below a.heap.size a b)(h:b.grownBy c row):a.grownBy c row:=bZ (aC hb row) h
theorem dK (w:World)(rb p:Nat)(err:Int)(t:B)(h:Rdr w rb p err)(ht:t.length<=800000000):
  Calls Tryz.prog 122 #[.pointer (some ⟨rb,0,none⟩),.string ⟨t.toArray⟩] w (RdP w rb p (aG err t) (.int .i64 (aA t))):=by
 have hn:=hd0 (Qa w t ht);have H:=hd0 h;clear h ht;cases hk:uf t with
 |true=>
  have e1:Hid (aG err t=err):=by show _=_;rw[aG,hk];simp
  have hk:=hd0 hk;go_enter Tryz.func122,Tryz.ntmps122
  go_wp2_with (go_at_call 163;refine hn.out.mono ?_;rintro e w1 ⟨rfl,hb1⟩;rw[hk.out])
  go_ret
  rw[e1.out];exact⟨rfl,H.out.below hb1,wZ hb1 _⟩
 |false=>
  have e1:Hid (aG err t=eC err 21):=by show _=_;rw[aG,hk,eC];simp
  have hk:=hd0 hk;go_enter Tryz.func122,Tryz.ntmps122
  go_wp2_with (first
   |(go_at_call 163;refine hn.out.mono ?_;rintro e w1 ⟨rfl,hb1⟩;rw[hk.out])
   |(go_at_call 164;refine(qy w1 rb p err 21 (H.out.below hb1)).mono ?_;rintro e w2 ⟨rfl,hr2,hg2⟩))
  go_ret
  rw[e1.out];exact⟨rfl,hr2,below_grown hb1 hg2⟩
theorem wP (w:World)(rb p:Nat)(err:Int)(t:B)(h:Rdr w rb p err):
  Calls Tryz.prog 123 #[.pointer (some ⟨rb,0,none⟩),.string ⟨t.toArray⟩] w (RdP w rb p (bg err t) (.string ⟨t.toArray⟩)):=by
 have hn:=hd0 (xQ w t);have H:=hd0 h;clear h;cases hk:nameB t with
 |true=>
  have e1:Hid (bg err t=err):=by show _=_;rw[bg,hk];simp
  have hk:=hd0 hk;go_enter Tryz.func123,Tryz.ntmps123
  go_wp2_with (go_at_call 72;refine hn.out.mono ?_;rintro e w1 ⟨rfl,hb1⟩;rw[hk.out])
  go_ret
  rw[e1.out];exact⟨rfl,H.out.below hb1,wZ hb1 _⟩
 |false=>
  have e1:Hid (bg err t=eC err 23):=by show _=_;rw[bg,hk,eC];simp
  have hk:=hd0 hk;go_enter Tryz.func123,Tryz.ntmps123
  go_wp2_with (first
   |(go_at_call 72;refine hn.out.mono ?_;rintro e w1 ⟨rfl,hb1⟩;rw[hk.out])
   |(go_at_call 164;refine(qy w1 rb p err 23 (H.out.below hb1)).mono ?_;rintro e w2 ⟨rfl,hr2,hg2⟩))
  go_ret
  rw[e1.out];exact⟨rfl,hr2,below_grown hb1 hg2⟩
structure aiX (w:World)(p gm:Nat)(gl:Gl):Prop where
 cell:w.cell? ⟨p,10,none⟩=some (.map (some gm))
 map:ah0 lU w gm (fun t=>(gl.lookup t).map fun n=> .int .i64 (n:Nat))
theorem ah0.ajP {κ :Type}{E:Emb κ}{w:World}{b:Nat}{f: κ ->Option Value}{P:Program}{T K El:TypeId}(h:ah0 E w b f)(hT:P.underlying T=some (.map K El))(hK:P.underlying K=some E.d){z:Value}(hz:(zeroValue El).run P w= .ok z w)(k: κ){v:Value}{ok:Bool}(hv:(f k).getD z=v)(ho:(f k).isSome=ok):
  (Instr.lookup T (.map (some b)) (E.emb k) true).run P w= .ok (.tuple #[v,.bool ok]) w:=by
 rw[h.ai2 hT hK hz k,hv,ho]
theorem GL (w:World):(zeroValue 3).run Tryz.prog w= .ok (.int .i64 0) w:=by kernel_rfl
theorem xP (w:World)(rb p gm:Nat)(gl:Gl)(err:Int)(t:B)(h:Rdr w rb p err)(hm:aiX w p gm gl):
  Calls Tryz.prog 132 #[.pointer (some ⟨rb,0,none⟩),.string ⟨t.toArray⟩] w (RdP w rb p (jB gl err t) (.int .i64 (fF gl t))):=by
 have c0:w.cell? ⟨rb,0,none⟩=some (.pointer (some ⟨p,0,none⟩)):=h.cell 0;have c10:=hm.cell;have H:=hd0 h;cases hk:gl.lookup t with
 |some n=>
  have hl:∀w',w'=w->(Instr.lookup 112 (.map (some gm)) (.string ⟨t.toArray⟩) true).run Tryz.prog w'= .ok (.tuple #[.int .i64 (fF gl t),.bool true]) w':=fun w' e=>by
   subst e;exact hm.map.ajP Tryz.underlying112 Tryz.underlying9 (GL _) t (by rw[hk,fF,hk];rfl) (by rw[hk];rfl)
  have hl:=hl w rfl;have e1:Hid (jB gl err t=err):=by show _=_;rw[jB,hk];simp
  clear h hm hk;go_enter Tryz.func132,Tryz.ntmps132
  go_wp2;go_ret
  rw[e1.out];exact⟨rfl,H.out,World.grownBy.refl _ _⟩
 |none=>
  have hl:(Instr.lookup 112 (.map (some gm)) (.string ⟨t.toArray⟩) true).run Tryz.prog w= .ok (.tuple #[.int .i64 (fF gl t),.bool false]) w:=hm.map.ajP Tryz.underlying112 Tryz.underlying9 (GL _) t (by rw[hk,fF,hk];rfl) (by rw[hk];rfl);have e1:Hid (jB gl err t=eC err 23):=by show _=_;rw[jB,hk,eC];simp
  clear h hm hk;go_enter Tryz.func132,Tryz.ntmps132
  go_wp2_with (go_at_call 164;refine(qy _ rb p err 23 H.out).mono ?_;rintro e w2 ⟨rfl,hr2,hg2⟩)
  go_ret
  rw[e1.out];exact⟨rfl,hr2,hg2⟩
theorem fZ (w:World)(p:Nat):Calls Tryz.prog 121 #[.pointer (some ⟨p,0,none⟩)] w fun e w'=>e= .returned (.pointer (some ⟨w.heap.size,0,none⟩))/\Rdr w' w.heap.size p 0/\Below w.heap.size w w':=by
 go_enter Tryz.func121,Tryz.ntmps121
 go_wp2;go_ret
 exact⟨rfl,Bk.new _ _ _,(akl _ _).alloc (nr _) _⟩
end
section
open Go.RowKit Go.Sort
def nG:Nat:=11+1
structure Tabs (w:World):Prop where
 ops:aiD w 1 (strs opNames)
 anch:aiD w 4 (strs anchorNames)
 kinds:aiD w 5 (strs az)
 pow:aiD w 9 (Lib.pow10Tab.map fun z=>Value.int .u64 z)
theorem Tabs.below {w w':World}{Bd:Nat}(h:Tabs w)(hb:Below Bd w w')(hg:nG<=Bd):Tabs w':=by unfold nG at hg;exact⟨h.ops.below hb (by omega),h.anch.below hb (by omega),h.kinds.below hb (by omega),h.pow.below hb (by omega)⟩
theorem Tabs.all {w w':World}(h:Tabs w)(hb:Below w.heap.size w w'):Tabs w':=⟨h.ops.below hb h.ops.lt,h.anch.below hb h.anch.lt,h.kinds.below hb h.kinds.lt,h.pow.below hb h.pow.lt⟩
theorem Tabs.tab {w:World}(h:Tabs w):Lib.TabIs Tryz.prog w "internal/strconv.uint64pow10" .u64 Lib.pow10Tab:=by
 obtain⟨t,fz,h⟩:=h.pow
 have hg:Tryz.prog.globalNamed "internal/strconv.uint64pow10" =some 9:=by kernel_rfl
 simp[Lib.TabIs,World.var?,hg,h]
theorem Ro (k:Nat):∀u,u<10 ^ (k+1)->Lib.nDigits u<=k+1:=by
 induction k with
 |zero=>intro u hu;rw[Lib.nDigits_small (by simpa using hu)];exact nr _
 |succ k ih=>
  intro u hu;by_cases h:u<10
  ·rw[Lib.nDigits_small h];omega
  rw[Lib.nDigits_big h];have:=ih (u / 10) (by rw[Nat.pow_succ] at hu;omega);omega
theorem rH {n:Int}(h:I64 n):(ag n).length<=21:=by
 unfold I64 at h;have hb:∀u:Nat,u<=9223372036854775808->(Lib.decDigits u).length<=20:=fun u hu=>by
  rw[Lib.decDigits_length];exact Ro 19 u (Nat.lt_of_le_of_lt hu (by decide))
 unfold ag Lib.itoa;split
 ·have:=hb n.natAbs (by omega);simp;omega
 have:=hb n.toNat (by omega);omega
theorem below_grow (w:World)(k:Nat)(os:Array Obj):Below w.heap.size w (grow (w.drewN k) os):=
 ⟨rfl,rfl,rfl,by simp[grow],fun b hb=>by
  have:(grow (w.drewN k) os).heap=w.heap++os:=rfl;rw[this,Array.getElem?_append_left hb]⟩
theorem aS (w:World)(n:Int)(hT:Tabs w)(hn:I64 n):Calls Tryz.prog 42 #[.int .i64 n] w fun e w'=>e= .returned (.string ⟨(ag n).toArray⟩)/\Below w.heap.size w w':=by
 have hc:=hd0 (Tryz.strconv_Itoa n hn.1 hn.2 w hT.tab);clear hn;go_enter Tryz.func42,Tryz.ntmps42
 go_wp2_with fail
 refine hc.out.mono ?_;rintro e w' ⟨rfl,k,os,rfl⟩;go_wp2;go_ret
 exact⟨rfl,below_grow w k os⟩
theorem GK (l:List B)(n:Int)(h:n<1):pick l n=[63]:=by rw[pick,if_pos h]
theorem Gh (l:List B)(n:Int)(h:(l.length:Int)<n):pick l n=[63]:=by
 rw[pick];split
 ·rfl
 rw[akL (by omega)];rfl
theorem G6 (l:List B)(n:Int)(h1:1<=n)(h2:n<=l.length):∃s,l[(n - 1).toNat]? =some s/\pick l n=s:=by
 rw[pick,if_neg (by omega)];have h:(n - 1).toNat<l.length:=by omega
 exact⟨l[(n - 1).toNat],ako h,by rw[ako h];rfl⟩
theorem Jr (w:World)(n:Int)(hT:Tabs w):Calls Tryz.prog 37 #[.int .i64 n] w fun e w'=>e= .returned (.string ⟨(kL n).toArray⟩)/\w=w':=by
 by_cases h1:n<1
 ·have hp:=hd0 (GK opNames n h1);go_enter Tryz.func37,Tryz.ntmps37
  go_wp2;go_ret
  exact⟨by rw[kL,hp.out];rfl,rfl⟩
 by_cases h2:39<n
 ·have hp:=hd0 (Gh opNames n (by show((39:Nat):Int)<n;omega));go_enter Tryz.func37,Tryz.ntmps37
  go_wp2;go_ret
  exact⟨by rw[kL,hp.out];rfl,rfl⟩
 obtain⟨s,hs,hp0⟩:=G6 opNames n (by omega) (by simp only[opNames,aF,ln];omega);have hp:=hd0 hp0;clear hp0;have hc:w.cell? ⟨1,n.toNat - 1,none⟩=some (.string ⟨s.toArray⟩):=by rw[show n.toNat - 1=(n - 1).toNat by omega,hT.ops.cell];exact strs_get hs
 clear hs;go_enter Tryz.func37,Tryz.ntmps37
 go_wp2;go_ret
 exact⟨by rw[kL,hp.out];rfl,rfl⟩
theorem I8 (w:World)(n:Int)(hT:Tabs w):Calls Tryz.prog 96 #[.int .i64 n] w fun e w'=>e= .returned (.string ⟨(pick anchorNames n).toArray⟩)/\w=w':=by
 by_cases h1:n<1
 ·have hp:=hd0 (GK anchorNames n h1);go_enter Tryz.func96,Tryz.ntmps96
  go_wp2;go_ret
  exact⟨by rw[hp.out];rfl,rfl⟩
 by_cases h2:4<n
 ·have hp:=hd0 (Gh anchorNames n (by show((4:Nat):Int)<n;omega));go_enter Tryz.func96,Tryz.ntmps96
  go_wp2;go_ret
  exact⟨by rw[hp.out];rfl,rfl⟩
 obtain⟨s,hs,hp0⟩:=G6 anchorNames n (by omega) (by simp only[anchorNames,aF,ln];omega);have hp:=hd0 hp0;clear hp0;have hc:w.cell? ⟨4,n.toNat - 1,none⟩=some (.string ⟨s.toArray⟩):=by rw[show n.toNat - 1=(n - 1).toNat by omega,hT.anch.cell];exact strs_get hs
 clear hs;go_enter Tryz.func96,Tryz.ntmps96
 go_wp2;go_ret
 exact⟨by rw[hp.out];rfl,rfl⟩
theorem yJ (w:World)(n:Int)(hT:Tabs w):Calls Tryz.prog 97 #[.int .i64 n] w fun e w'=>e= .returned (.string ⟨(pick az n).toArray⟩)/\w=w':=by
 by_cases h1:n<1
 ·have hp:=hd0 (GK az n h1);go_enter Tryz.func97,Tryz.ntmps97
  go_wp2;go_ret
  exact⟨by rw[hp.out];rfl,rfl⟩
 by_cases h2:8<n
 ·have hp:=hd0 (Gh az n (by show((8:Nat):Int)<n;omega));go_enter Tryz.func97,Tryz.ntmps97
  go_wp2;go_ret
  exact⟨by rw[hp.out];rfl,rfl⟩
 obtain⟨s,hs,hp0⟩:=G6 az n (by omega) (by simp only[az,aF,ln];omega);have hp:=hd0 hp0;clear hp0;have hc:w.cell? ⟨5,n.toNat - 1,none⟩=some (.string ⟨s.toArray⟩):=by rw[show n.toNat - 1=(n - 1).toNat by omega,hT.kinds.cell];exact strs_get hs
 clear hs;go_enter Tryz.func97,Tryz.ntmps97
 go_wp2;go_ret
 exact⟨by rw[hp.out];rfl,rfl⟩
theorem Rk (ws:List B)(k:Nat)(s:B)(h:ws[k]? =some s):fC (ws.take (k+1))=fC (ws.take k)++32::s:=by obtain⟨hk,hg⟩:=akn.1 h;rw[akB hk,hg];simp[fC]
theorem Ky (ws:List B)(k:Nat):(fC (ws.take k)).length<=(fC ws).length:=by
 conv=>rhs;rw[<-akS k ws]
 simp only[fC,akT,la];omega
theorem BZ (w:World)(Bd g:Nat)(fc:Nat->Value)(txt first:B)(A:Option Addr)(c:Nat)(ws:List B)(h:Pr w Bd g fc txt)(hA:Sl ai4 1 w (FT w) A ws)(hlen:txt.length+(au first ws).length<=1000000000000)(hws:ws.length<=1000000000000):
  Calls Tryz.prog 41 #[.pointer (some ⟨g,0,none⟩),.string ⟨first.toArray⟩,.slice A ws.length c] w fun e w'=>e= .returned (.tuple #[])/\Pr w' Bd g fc (txt++au first ws)/\KP w w'/\Below Bd w w':=by
 have hl2:txt.length+first.length+(fC ws).length+1<=1000000000000:=by simp only[au,la,aF,ln] at hlen;omega
 clear hlen;go_enter Tryz.func41,Tryz.ntmps41
 go_wp2_with (go_at_call 91;refine(wU _ Bd g fc txt first h (by omega)).mono ?_;rintro e w1 ⟨rfl,hp1,hk1,hb1⟩)
 go_loopw [15] (fun i wr=>∃k:Nat,k<=ws.length/\i= .int .i64 k/\Pr wr Bd g fc (txt++first++fC (ws.take k))/\KP w wr/\Below Bd w wr) (fun i _=>ws.length - (intOf i).toNat)
 case atStart=>exact⟨0,nz _,rfl,by simpa [fC] using hp1,hk1,hb1⟩
 case round=>
  obtain⟨k,hk,rfl,hp,hkp,hbl⟩:=hrel;have hm:=Ky ws k;by_cases hlt:k<ws.length
  ·obtain⟨b,o,s,rfl,-,hs,q1⟩:=(hkp.sl ai4.ok hA).str hlt
   have hsn:=Rk ws k s hs.out;have hm2:=Ky ws (k+1);rw[hsn] at hm2;simp only[la,aF] at hm2;have Hs:=hd0 hsn;clear hsn hs;go_wp2_with (first
    |(go_at_call 92;refine(Ag _ Bd g fc _ 32 hp (by simp only[la];omega)).mono ?_;rintro e w2 ⟨rfl,hp2,hk2,hb2⟩)
    |(go_at_call 91;refine(wU _ Bd g fc _ s hp2 (by simp only[la,aF,ln];omega)).mono ?_;rintro e w3 ⟨rfl,hp3,hk3,hb3⟩))
   go_roundw
   case rel=>exact⟨k+1,by omega,by simp,by rw[Hs.out];simpa using hp3,(hkp.trans hk2).trans hk3,(hbl.trans hb2).trans hb3⟩
   case measure=>simp[intOf];omega
  obtain rfl:k=ws.length:=by omega
  go_wp2_with (go_at_call 92;refine(Ag _ Bd g fc _ 10 hp (by simp only[la];omega)).mono ?_;rintro e w2 ⟨rfl,hp2,hk2,hb2⟩)
  go_end0
  refine⟨rfl,?_,hkp.trans hk2,hbl.trans hb2⟩;simpa [au] using hp2
end
section
open Go.RowKit
structure aiy (gl:Gl)(gs:List ahR):Prop where
 at':∀(i:Nat) (g:ahR),gs[i]? =some g->gl.lookup g.name=some i
 names:∀g∈gs,nameB g.name=true
theorem xK {gl:Gl}{gs:List ahR}(h:aiy gl gs){n:Int}(hn:In gs.length n):gl.lookup (bV gs n)=some n.toNat/\nameB (bV gs n)=true:=by
 obtain⟨h1,h2⟩:=hn;have hlt:n.toNat<gs.length:=by omega
 have e:gs[n.toNat]? =some gs[n.toNat]:=ako hlt;have e2:bV gs n=gs[n.toNat].name:=by unfold bV;rw[if_neg (by omega),e]
 rw[e2];exact⟨h.at' _ _ e,h.names _ (List.getElem_mem hlt)⟩
theorem Af {gl:Gl}{gs:List ahR}(h:aiy gl gs){n:Int}(hn:In gs.length n)(e:Int):jB gl e (bV gs n)=e/\fF gl (bV gs n)=n:=by obtain⟨h1,-⟩:=xK h hn;obtain⟨h3,h4⟩:=hn;rw[jB,fF,h1];refine⟨by simp,?_⟩;simp;omega
theorem YW {gl:Gl}{gs:List ahR}(h:aiy gl gs)(l:List Int)(hl:∀n∈l,In gs.length n)(e:Int):rO gl e (l.map (bV gs))=e/\(l.map (bV gs)).map (fF gl)=l:=by
 induction l generalizing e with
 |nil=>exact⟨rfl,rfl⟩
 |cons n r ih=>
  obtain⟨a1,a2⟩:=Af h (hl n (by simp)) e;obtain⟨b1,b2⟩:=ih (fun m hm=>hl m (by simp[hm])) e;refine⟨?_,?_⟩
  ·have:rO gl e ((n::r).map (bV gs))=rO gl (jB gl e (bV gs n)) (r.map (bV gs)):=rfl;rw[this,a1,b1]
  rw[akv,akv,a2,b2]
theorem NM {gl:Gl}{cls:List (B×List Int)}{s:B}{n:Nat}(hs:nameB s=true)(hl:gl.lookup s=some n):mr gl cls s= .ok [(n:Int)]:=by
 unfold mr;split
 ·exact absurd rfl ((UY hs 64 (by simp)).2.2.2.2.1)
 rw[hl]
theorem Oa {gl:Gl}{gs:List ahR}(h:aiy gl gs)(cls:List (B×List Int))(s:List Int)(hs:∀n∈s,In gs.length n)(acc:List Int)(hl:acc.length+s.length<=1000):kz gl cls acc (s.map (bV gs))= .ok (acc++s):=by
 induction s generalizing acc with
 |nil=>simp[kz]
 |cons n r ih=>
  obtain⟨h1,h2⟩:=xK h (hs n (by simp));have h3:=(hs n (by simp)).1;rw[akv,kz,NM h2 h1];have e:((n.toNat:Nat):Int)=n:=by omega
  simp only[e];rw[if_neg (by simp only[la,aF,ln] at hl ⊢;omega),ih (fun m hm=>hs m (by simp[hm])) _ (by simp only[la,aF,ln] at hl ⊢;omega)];simp
theorem uC {gl:Gl}{gs:List ahR}(h:aiy gl gs)(cls:List (B×List Int))(l:List (List Int))(hl:∀s∈l,(∀n∈s,In gs.length n)/\s.length<=1000):iV gl cls (l.map (fun s=>s.map (bV gs)))= .ok l:=by
 induction l with
 |nil=>rfl
 |cons s r ih=>obtain⟨h1,h2⟩:=hl s (by simp);rw[akv,iV,Oa h cls s h1 [] (by simpa using h2),ih (fun x hx=>hl x (by simp[hx]))];simp
theorem XB (names:List B)(hn:∀w∈names,w≠[91]/\w≠[93])(row:List B)(told:List (List B))(rest:List B):dQ true row told (names++[93]::rest)=dQ false [] (told++[row++names]) rest:=by
 induction names generalizing row with
 |nil=>simp[dQ]
 |cons w r ih=>obtain⟨h1,h2⟩:=hn w (by simp);rw[akC,dQ,if_neg h1,if_neg h2,if_pos rfl,ih (fun x hx=>hn x (by simp[hx]))];simp
theorem Fj {s:B}(h:nameB s=true):s≠[91]/\s≠[93]/\s≠[47]/\s≠[62]:=by refine⟨?_,?_,?_,?_⟩<;>(rintro rfl;revert h;decide)
theorem Vk {gl:Gl}{gs:List ahR}(h:aiy gl gs)(s:List Int)(hs:∀n∈s,In gs.length n)(told:List (List B))(rest:List B):dQ false [] told (setW gs s++rest)=dQ false [] (told++[s.map (bV gs)]) rest:=by
 have hb:∀n∈s,bV gs n≠[91]/\bV gs n≠[93]:=fun n hn=>by
  have:=Fj (xK h (hs n hn)).2;exact⟨this.1,this.2.1⟩
 by_cases h1:s.length=1
 ·match s,h1 with
  |[n],_=>obtain⟨b1,b2⟩:=hb n (by simp);show dQ false [] told (bV gs n::rest)=_;rw[dQ,if_neg b1,if_neg b2];simp
 have e:setW gs s=[91]::s.map (bV gs)++[[93]]:=by
  unfold setW;split
  ·simp at h1
  rfl
 rw[e];simp only[akC,aky,akX];rw[dQ,if_pos rfl];simp only[Bool.false_eq_true,if_false];rw[XB _ (fun w hw=>by
  rw[akQ] at hw;obtain⟨n,hn,rfl⟩:=hw;exact hb n hn)]
 simp
theorem Vx {gl:Gl}{gs:List ahR}(h:aiy gl gs)(l:List (List Int))(hl:∀s∈l,∀n∈s,In gs.length n):eG (bJ gs l)=some (l.map (fun s=>s.map (bV gs))):=by
 suffices key:∀told,dQ false [] told (bJ gs l)=some (told++l.map (fun s=>s.map (bV gs))) by simpa [eG] using key []
 induction l with
 |nil=>intro told;simp[bJ,dQ]
 |cons s r ih=>
  intro told;have e:bJ gs (s::r)=setW gs s++bJ gs r:=by simp[bJ]
  rw[e,Vk h s (hl s (by simp)),ih (fun x hx=>hl x (by simp[hx]))];simp
theorem yt {gl:Gl}{gs:List ahR}(h:aiy gl gs)(l:List (List Int))(hl:∀s∈l,∀n∈s,In gs.length n):∀w∈bJ gs l,w≠[47]/\w≠[62]/\bM w=true:=by
 intro w hw;simp only[bJ,akZ] at hw;obtain⟨s,hs,hw⟩:=hw;have hn:∀n∈s,bV gs n≠[47]/\bV gs n≠[62]/\bM (bV gs n)=true:=fun n hn=>by
  have h1:=(xK h (hl s hs n hn)).2;have:=Fj h1;exact⟨this.2.2.1,this.2.2.2,pK h1⟩
 have key:w∈[91]::s.map (bV gs)++[[93]]\/w∈s.map (bV gs):=by
  unfold setW at hw;split at hw
  ·exact .inr (by simpa using hw)
  exact .inl hw
 have:w=[91]\/w=[93]\/∃n∈s,bV gs n=w:=by
  rcases key with hk|hk
  ·simp only[akC,akx,akq,akQ,akV,or_false] at hk;rcases hk with hk|⟨n,hn,e⟩|hk
   ·exact .inl hk
   ·exact .inr (.inr ⟨n,hn,e⟩)
   exact .inr (.inl hk)
  rw[akQ] at hk;exact .inr (.inr hk)
 rcases this with rfl|rfl|⟨n,hns,rfl⟩
 ·decide
 ·decide
 exact hn n hns
theorem vU (ws:List B)(hw:∀w∈ws,w≠[47]/\w≠[62])(n:Nat)(cur:List B)(told:List (List B))(rest:List B):fQ n cur told (ws++rest)=fQ n (cur++ws) told rest:=by
 induction ws generalizing cur with
 |nil=>simp
 |cons w r ih=>rw[akC,fQ,if_pos (hw w (by simp)),ih (fun x hx=>hw x (by simp[hx]))];simp
theorem WS (a b c d:List B)(ha:∀w∈a,w≠[47]/\w≠[62])(hb:∀w∈b,w≠[47]/\w≠[62])(hc:∀w∈c,w≠[47]/\w≠[62])(hd:∀w∈d,w≠[47]/\w≠[62]):
  oP (a++[47]::b++[47]::c++[62]::d)=some [a,b,c,d]:=by
 have e:a++[47]::b++[47]::c++[62]::d=a++([47]::(b++([47]::(c++([62]::(d++[])))))):=by simp
 rw[e,oP,vU a ha,fQ,if_neg (by simp),if_pos (by simp),vU b hb,fQ,if_neg (by simp),if_pos (by simp),vU c hc,fQ,if_neg (by simp),if_pos (by simp),vU d hd,fQ];simp
theorem Qr (n:Int)(s:List Int)(h:∀x∈s,n<x):kW n s=n::s:=by
 cases s with
 |nil=>rfl
 |cons x r=>rw[kW,if_pos (h x (by simp))]
theorem JA (s:List Int)(h:s.Pairwise (· < ·)):setOf s=s:=by
 induction s with
 |nil=>rfl
 |cons n r ih=>obtain⟨h1,h2⟩:=List.pairwise_cons.1 h;have e:setOf (n::r)=kW n (setOf r):=rfl;rw[e,ih h2,Qr n r h1]
theorem Oj {n:Nat}{s:List Int}(h:OkS n s):s.length<=n:=by
 obtain⟨h1,h2⟩:=h
 suffices key:∀(s:List Int) (lo:Int),s.Pairwise (· < ·)->(∀x∈s,lo<=x/\x<n)->(s.length:Int)<=max 0 (n - lo) by have:=key s 0 h1 (fun x hx=>h2 x hx);omega
 intro s;induction s with
 |nil=>intro lo _ _;simp;omega
 |cons x r ih=>intro lo hp hr;obtain⟨h3,h4⟩:=List.pairwise_cons.1 hp;have h5:=hr x (by simp);have:=ih (x+1) h4 (fun y hy=>⟨by have:=h3 y hy;omega,(hr y (by simp[hy])).2⟩);simp only[aF];omega
theorem CY {s:List Int}(h:s.Pairwise (· < ·)):s.Nodup:=h.imp (fun hab e=>by omega)
theorem ZT (s out:List Int)(hn:s.Nodup)(hl:out.length=s.length):s.map (fun g=>out.getD (s.idxOf g) 0)=out:=by
 apply List.ext_getElem (by simp[hl]);intro i h1 h2;rw[List.getElem_map];have h3:i<s.length:=by simpa using h1
 rw[List.Nodup.idxOf_getElem hn i h3];simp[List.getD,h2]
theorem AB (s out:List Int)(hs:s.Pairwise (· < ·))(hl:out.length=s.length):dZ s out= .ok out:=by rw[dZ,if_neg (by simpa using CY hs),if_neg (by simpa using hl),JA s hs,ZT s out (CY hs) hl]
theorem Ie (c:Call)(h:N9 c.at'/\N9 c.lookup)(e:Int):lQ e (ag c.at'++58::ag c.lookup)=e/\jI (ag c.at'++58::ag c.lookup)=c/\(ag c.at'++58::ag c.lookup).count 58=1/\bM (ag c.at'++58::ag c.lookup)=true:=by
 obtain⟨h1,h2⟩:=h;have n1:∀d∈ag c.at',d≠58:=fun d hd=>(iL (pO _ d hd)).2.1
 have n2:∀d∈ag c.lookup,d≠58:=fun d hd=>(iL (pO _ d hd)).2.1
 obtain⟨c1,c2⟩:=JC (b:=ag c.lookup) n1;refine⟨?_,?_,?_,?_⟩
 ·rw[lQ,c1,c2,gU _ h1,gU _ h2]
 ·rw[jI,c1,c2,(eu _ h1).2,(eu _ h2).2]
 ·rw[List.count_append,List.count_cons,count_none n1,count_none n2];simp
 simp only[bM,akK,Bool.not_eq_true',List.isEmpty_eq_false_iff,akW,akq,akx];refine⟨by simp,fun d hd=> ?_⟩;rcases hd with hd|rfl|hd
 ·exact(iL (pO _ d hd)).1
 ·decide
 exact(iL (pO _ d hd)).1
theorem Pz (l:List Call)(h:∀c∈l,N9 c.at'/\N9 c.lookup)(e:Int):(l.map (fun c=>ag c.at'++58::ag c.lookup)).foldl lQ e=e/\(l.map (fun c=>ag c.at'++58::ag c.lookup)).map jI=l/\
  wH (l.map (fun c=>ag c.at'++58::ag c.lookup))=true/\∀w∈l.map (fun c=>ag c.at'++58::ag c.lookup),bM w=true:=by
 induction l generalizing e with
 |nil=>exact⟨rfl,rfl,rfl,by simp⟩
 |cons c r ih=>
  obtain⟨a1,a2,a3,a4⟩:=Ie c (h c (by simp)) e;obtain⟨b1,b2,b3,b4⟩:=ih (fun d hd=>h d (by simp[hd])) e;refine⟨?_,?_,?_,?_⟩
  ·rw[akv,akN,a1,b1]
  ·rw[akv,akv,a2,b2]
  ·unfold wH at b3 ⊢;rw[akv,List.all_cons,b3,a3];rfl
  intro w hw;rw[akv,akx] at hw;rcases hw with rfl|hw
  ·exact a4
  exact b4 w hw
def ah (n:Int):B:=ag n++[32]
def uX (b:Bool):B:=if b then [49,32] else [48,32]
def rowB (l:List Int):B:=ah l.length++l.flatMap ah
def jZ (l:List (List Int)):B:=ah l.length++l.flatMap rowB
def pR (i:Ins):B:=ah i.op++ah i.a
def fE (l:List Ins):B:=ah l.length++l.flatMap pR
def qU (s:B):B:=ah s.length++(s++[32])
def qo (p:Pt):B:=ah p.x++(ah p.y++uX p.on)
def WJ (l:List Pt):B:=ah l.length++l.flatMap qo
def jc (p:Part):B:=ah p.ahU++(ah p.x++ah p.y)
def Ko (l:List Part):B:=ah l.length++l.flatMap jc
def jg (a:aiK):B:=ah a.kind++(ah a.cls++(ah a.x++ah a.y))
def Lr (l:List aiK):B:=ah l.length++l.flatMap jg
def kZ (d:Delta):B:=ah d.region++(ah d.point++(ah d.x++ah d.y))
def Ru (l:List Delta):B:=ah l.length++l.flatMap kZ
def eF (g:ahR):B:=qU g.name++(ah g.advance++(uX g.mark++(WJ g.points++(rowB g.ends++(Ko g.parts++(Lr g.anchors++(Ru g.deltas++fE g.hint)))))))
def FZ (l:List ahR):B:=ah l.length++l.flatMap eF
def kY (c:Chr):B:=ah c.rune++ah c.ahU
def Qe (l:List Chr):B:=ah l.length++l.flatMap kY
def je (c:Call):B:=ah c.at'++ah c.lookup
def EU (l:List Call):B:=ah l.length++l.flatMap je
def iT (r:aii):B:=jZ r.back++(jZ r.in'++(jZ r.ahead++(rowB r.out++(EU r.calls++ah r.x))))
def Lj (l:List aii):B:=ah l.length++l.flatMap iT
def gZ (l:Lookup):B:=ah l.kind++(uX l.aik++Lj l.rules)
def L8 (l:List Lookup):B:=ah l.length++l.flatMap gZ
def jh (x:aip):B:=qU x.name++rowB x.ahP
def J3 (l:List aip):B:=ah l.length++l.flatMap jh
def ji (a:aiM):B:=qU a.name++(ah a.min'++(ah a.aiv++ah a.max'))
def PO (l:List aiM):B:=ah l.length++l.flatMap ji
def jO (t:aiH):B:=ah t.start++(ah t.peak++ah t.stop)
def Aq (l:List aiH):B:=ah l.length++l.flatMap jO
def lh (r:Region):B:=Aq r.ah4
def P5 (l:List Region):B:=ah l.length++l.flatMap lh
def L9 (l:List (List Ins)):B:=ah l.length++l.flatMap fE
def lF (f:Fnt):B:=ah f.unit++(FZ f.ahO++(Qe f.chars++(L8 f.ahP++(J3 f.features++(PO f.ahQ++(P5 f.regions++(L9 f.funcs++rowB f.cvt)))))))
def PF {α:Type}(c:α->B):Prop:=∀x y r s,c x++r=c y++s->x=y/\r=s
end
end Go.Proofs.YtkijckccfookeaaGreatDoor
