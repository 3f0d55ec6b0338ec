/- parse.Op. -/
import Derived.Test.YtkijckccfookeaaGreatDoorU09
set_option linter.unusedVariables false
set_option linter.unusedSimpArgs false
set_option maxRecDepth 100000
set_option maxHeartbeats 32000000
namespace Go.Proofs.YtkijckccfookeaaGreatDoor
section
open Go.RowKit
theorem aar (t:B)(h:∀(j:Nat) (s:B),opNames[j]? =some s->s≠t):sJ t=0:=by rw[sJ,if_neg];intro hm;obtain⟨j,hj⟩:=anP.1 hm;exact h j t hj rfl
theorem aej (t:B)(k:Nat)(h:opNames[k]? =some t)(hl:∀(j:Nat) (s:B),j<k->opNames[j]? =some s->s≠t):sJ t=(k:Int)+1:=by
 rw[sJ,if_pos (anC h)];have:opNames.findIdx (· ==t)=k:=by rw[List.findIdx_eq (anv.1 h).1];obtain⟨hk,hg⟩:=anv.1 h;refine⟨by simp[hg],fun j hj=> ?_⟩;have:=hl j opNames[j] hj (anw (by omega));simpa using this
 rw[this]
theorem yL:opNames.length=39:=by decide
theorem Qj (k:Nat)(s:B)(h:opNames[k]? =some s)(w:World):(Instr.index 144 (.agg (strs opNames).toArray) (.int .i64 (k:Int))).run Tryz.prog w= .ok (.string ⟨s.toArray⟩) w:=by
 have hk:k<39:=by have:=(anv.1 h).1;rw[yL] at this;exact this
 have hs:=strs_get h;have hk2:(k:Int)<39:=by omega
 have hk3:(0:Int)<=k:=by omega
 simp[Instr.index,go_sem,hk2,hk3,hs];omega
theorem TP:(strs opNames).toArray.size=39:=by simp[xe,yL]
theorem TE (w:World)(t:B)(hT:alE w 0 (strs opNames)):Calls Tryz.prog 25 #[.string ⟨t.toArray⟩] w fun e w'=>e= .returned (.tuple #[.int .i64 (sJ t),.bool (sJ t !=0)])/\w=w':=by
 obtain⟨ty,fz,hb⟩:=hT;have hix:=hd0 Qj;have hsz:=TP;have hpost:Hid (∀k:Nat,(∀j s,j<k->opNames[j]? =some s->s≠t)->((opNames[k]? =some t->sJ t=(k:Int)+1)/\(39<=k->sJ t=0))):=fun k hl=>by
  refine⟨fun h=>aej t k h hl,fun hk=>aar t fun j s hj=>hl j s ?_ hj⟩;have:=(anv.1 hj).1;rw[yL] at this;omega
 generalize (strs opNames).toArray=cs at*
 have MN:=hd0 (show(Tryz.prog.info? 144).map (·.size)=some cs.size by rw[hsz];kernel_rfl);clear hsz;go_enter Tryz.func25,Tryz.ntmps25
 go_wp2_with (refine wpList_load_row rfl 144 (.global 0) rfl 0 rfl ty cs fz _ hb Tryz.underlying144 rfl MN.out ?_)
 go_loop [7] (fun i=>∃k:Nat,k<=39/\i= .int .i64 k/\Hid (∀j s,j<k->opNames[j]? =some s->s≠t)) (fun i=>39 - (intOf i).toNat)
 case atStart=>exact⟨0,by omega,rfl,fun j s hj=>by omega⟩
 case round=>
  obtain⟨k,hk,rfl,hl⟩:=hrel;by_cases hlt:k<39
  ·obtain⟨s,hs⟩:∃s,opNames[k]? =some s:=⟨_,anw (by rw[yL];exact hlt)⟩
   have hrun:=hix.out k s hs;by_cases he:s=t
   ·have hres:=hd0 ((hpost.out k hl.out).1 (by rw[hs,he]));have e1:(s==t)=true:=by simp[he]
    clear hs he;go_wp2
    go_ret2
    rw[hres.out];refine⟨?_,rfl⟩;have:(((k:Int)+1) !=0)=true:=by simp;omega
    rw[this];rfl
   have hnx:Hid (∀j s,j<k+1->opNames[j]? =some s->s≠t):=fun j s' hj hs'=>by
    by_cases hjk:j=k
    ·subst hjk;rw[hs] at hs';cases hs';exact he
    exact hl.out j s' (by omega) hs'
   have e1:(s==t)=false:=by simpa using he
   clear hs he;go_wp2
   go_round
   case rel=>exact⟨k+1,by omega,by simp,hnx⟩
   case measure=>simp[intOf];omega
  have hres:=hd0 ((hpost.out k hl.out).2 (by omega));go_wp2
  go_ret2
  rw[hres.out];exact⟨rfl,rfl⟩
end
section
open Go.RowKit Go.Sort
theorem JM {ops:Array Oper}{o:Oper}{a:Act}{K:Act->World->Prop}{Q:Exit->Act->World->Prop}{E:Prop}(hgd:o.guard=none)(s x:Operand)
  (ho:o.op= .call {callee:= .builtin .append,args:= #[s,x],argTypes:= #[48,48]})
  (w1:World) (hsz:Nat) (hh:w1.heap.size=hsz) (base n c m:Nat) (A:Option Addr) (xs:List Value) (us:List B) (hm:us.length=m) (hs:a.eval s= .slice A n c) (hx:a.eval x= .slice (some ⟨hsz,0,none⟩) m m)
  (hown:w1.ownsRow base 9 1 (.slice A n c) n xs) (hn:n+m<=1000000000000) (hb:base<=w1.heap.size)
  (h:∀A' c' w',w'.ownsRow base 9 1 (.slice A' (n+m) c') (n+m) (xs++strs us)->w1.grownBy w' (Value.slice A n c).ownBlock->K (a.put o.dst (.slice A' (n+m) c')) w'):
  if Region.wanted o (yielded ops a.tmps)=true then Oper.wp Tryz.prog o a (w1.alloc (.cells (strs us).toArray 9)) K Q else E:=by
 subst hh;subst hm;obtain⟨i0,hi0,hz0,hz1,hz2⟩:=info_parts DF;refine xY _ hgd s x 48 ho base 9 i0 _ 1 16 Tryz.underlying48 hi0 hz0 hz1 hz2 rfl (by decide) (.slice A n c) n xs hs (hown.alloc _) (w1.heap.size+1) (some ⟨w1.heap.size,0,none⟩) us.length us.length (strs us) hx (Rd.newAt _ _ rfl (strs us).toArray 9 us.length 1 (by simp[xe])) (EX us) (by simp only[maxLen];omega) (by omega) (by simp;omega) ?_;intro v' w' ho' hg _;obtain⟨A',c',rfl⟩:=yV ho';refine h A' c' w' ho' ⟨hg.os,hg.tape,hg.output,nt (by simp) hg.size,fun i hi hne=> ?_⟩;exact(hg.block i (by simp;omega) hne).trans (Below.heap_alloc _ _ _ hi)
theorem Tabs.drew {w:World}(h:Tabs w):Tabs w.drew:=⟨h.ops,h.anch,h.kinds,h.pow⟩
theorem jT {w w':World}(h:Below w.drew.heap.size w.drew w'):Below w.heap.size w w':=⟨h.os,h.tape,h.output,h.size,h.block⟩
theorem bt {a b c:World}(h:Below a.heap.size a b)(k:Below b.heap.size b c):Below a.heap.size a c:=h.trans (k.mono h.size)
theorem rV {w w':World}{row:Option Nat}(hg:w.grownBy w' row){b o:Nat}{v:Value}(h:w.cell? ⟨b,o,none⟩=some v)(hne:some b≠row):w'.cell? ⟨b,o,none⟩=some v:=(World.cell?_of_block (a:=⟨b,o,none⟩) (hg.block b (World.block_lt_of_cell? w _ h) hne)).trans h
theorem F8 (l:List alv):(l.flatMap kz).length=l.length*3:=by
 induction l with
 |nil=>rfl
 |cons x l ih=>simp only[anM,la,ih,kz,aT,ln];omega
theorem Pr.below {w w':World}{Bd g:Nat}{fc:Nat->Value}{txt:B}(h:Pr w Bd g fc txt)(hb:Below w.heap.size w w'):Pr w' Bd g fc txt:=by obtain⟨ad,v,h1,h2,h3,h4⟩:=h;exact⟨ad,v,h1,(hb.block g (Bk.lt h2)).trans h2,h3,own_below h4 hb⟩
theorem lN {w:World}{base n c:Nat}{A:Option Addr}{ws:List B}(h:w.ownsRow base 9 1 (.slice A n c) n (strs ws)):Sl al5 1 w (FT w) A ws:=Sl.alj h (QP _ _ _) (fun _ _ hb=>GL hb (by decide) (by decide)) (by decide)
theorem XH (w:World)(Bd g:Nat)(fc:Nat->Value)(txt:B)(A:Option Addr)(c:Nat)(l:List alv)(hT:Tabs w)(hp:Pr w Bd g fc txt)(hBd:Bd<=w.heap.size)(hA:Sl alM 3 w (FT w) A l)(hl:l.length<=10000000000)(hlen:txt.length+(ay jQ (l.flatMap kz)).length<=1000000000000):
  Calls Tryz.prog 43 #[.pointer (some ⟨g,0,none⟩),.agg #[.slice A l.length c]] w fun e w'=>e= .returned (.tuple #[])/\Pr w' Bd g fc (txt++ay jQ (l.flatMap kz))/\KP w w'/\Below Bd w w':=by
 have hTL:=Nat.le_of_eq (F8 l);go_enter Tryz.func43,Tryz.ntmps43
 go_wp2;go_loopw [4,10] (fun v i wr=>∃k:Nat,k<=l.length/\i= .int .i64 k/\alA w ((l.take k).flatMap kz) v wr) (fun _ i _=>l.length - (intOf i).toNat)
 case atStart=>exact⟨0,nz _,rfl,none,0,rfl,⟨rfl,.inl ⟨rfl,rfl⟩⟩,(ant _ _).alloc (af _) _⟩
 case round=>
  obtain⟨k,hk,rfl,A3,c3,rfl,hown,hbl⟩:=hrel;have hlk:=F8 (l.take k);rw[anQ,Nat.min_eq_left hk] at hlk;by_cases hlt:k<l.length
  ·obtain⟨b,o,x,rfl,-,hx,q0,q1,q2,r0,r1,r2⟩:=((KP.below hbl).sl alM.ok hA).amW hlt;have HS:=hd0 (bM kz l k x hx.out);generalize hws:(l.take k).flatMap kz=ws at*
   have s0:=hbl.size;have hN0:alK w ws ws.length A3 c3 wr:=⟨rfl,hown,hbl⟩
   have hll:ws.length<=100000000000:=by omega
   have UT:ws.length+3<=1000000000000:=by omega
   obtain⟨x0,x1,x2⟩:=x;dsimp only at q0 q1 q2 r0 r1 r2;have hT1:=hT.all hbl;clear hx hws hlk;have hne:Hid (some wr.heap.size≠(Value.slice A3 ws.length c3).ownBlock):=fun e=>by have:=(hown.lt _ e.symm).2;omega
   go_wp2_with fail
   obtain⟨W1,hW1⟩:∃W1,wr.alloc (.cells #[.int .i64 x0,.int .i64 x1,.int .i64 x2] 101)=W1:=⟨_,rfl⟩
   rw[hW1];have hb0:Below wr.heap.size wr W1:=by rw[<-hW1];exact(ant _ _).alloc (af _) _
   have hT2:=hT1.all hb0;have k0:W1.cell? ⟨wr.heap.size,0,none⟩=some (.int .i64 x0):=by rw[<-hW1];simp[go_sem]
   have k1:W1.cell? ⟨wr.heap.size,1,none⟩=some (.int .i64 x1):=by rw[<-hW1];simp[go_sem]
   have k2:W1.cell? ⟨wr.heap.size,2,none⟩=some (.int .i64 x2):=by rw[<-hW1];simp[go_sem]
   have z0:=hb0.size;clear hW1 q0 q1 q2
   go_region_held3 (fun w'=>w'.cell? ⟨wr.heap.size,0,none⟩=some (.int .i64 x0)/\w'.cell? ⟨wr.heap.size,1,none⟩=some (.int .i64 x1)/\w'.cell? ⟨wr.heap.size,2,none⟩=some (.int .i64 x2))
    (first
     |exact⟨rV hg4 (ae hc3 k0) hne.out,rV hg4 (ae hc3 k1) hne.out,rV hg4 (ae hc3 k2) hne.out⟩
     |exact⟨ae hc3 k0,ae hc3 k1,ae hc3 k2⟩
     |exact⟨ae hc2 k0,ae hc2 k1,ae hc2 k2⟩
     |exact⟨ae hc1 k0,ae hc1 k1,ae hc1 k2⟩
     |go_keep)
    (first
     |(go_at_call 42;refine(aX _ x0 hT2.drew r0).mono ?_;rintro e w1 ⟨rfl,hb1⟩;have hc1:=jT hb1;have z1:=hc1.size)
     |(go_at_call 42;refine(aX _ x1 (hT2.all hc1) r1).mono ?_;rintro e w2 ⟨rfl,hb2⟩;have hc2:=bt hc1 hb2;have z2:=hc2.size)
     |(go_at_call 42;refine(aX _ x2 (hT2.all hc2) r2).mono ?_;rintro e w3 ⟨rfl,hb3⟩;have hc3:=bt hc2 hb3;have z3:=hc3.size)
     |(refine JM (by rfl) (.tmp 14) (.tmp 24) (by rfl) w3 w3.heap.size rfl w.heap.size ws.length c3 3 A3 (strs ws) [ah x0,ah x1,ah x2] rfl (by go_simp) (by go_simp) (own_below hown (bt hb0 hc3)) UT (nt s0 (nt z0 z3)) ?_;intro A4 c4 w4 fJ hg4))
   have EH:=hN0.next (bt hb0 hc3) fJ hg4;go_wp2;go_roundw
   case rel=>exact⟨k+1,by omega,by simp,by rw[HS.out];exact EH.s⟩
   case measure=>simp[intOf];omega
  obtain rfl:k=l.length:=by omega
  have HL:Hid ((l.take l.length).flatMap kz=l.flatMap kz):=by show _=_;rw[anA]
  rw[<-HL.out] at hlen hTL;generalize hws:(l.take l.length).flatMap kz=ws at*
  have hb3:=hp.below hbl;have hs3:=lN hown;have hw3:ws.length<=1000000000000:=by omega
  clear hws hlk;go_wp2_with (go_at_call 41;((with_reducible refine(DI _ Bd g fc txt jQ A3 c3 ws hb3 hs3 hlen hw3).mono ?_);rintro e w4 ⟨rfl,QQ,hk4,hb4⟩))
  go_end0
  rw[<-HL.out];exact⟨rfl,QQ,(KP.below hbl).trans hk4,(hbl.mono hBd).trans hb4⟩
end
section
open Go.RowKit
theorem adl {g:akN}(h:nameB g.name=true):MZ g≠[]/\∀w∈MZ g,bV w=true:=by
 refine iU (by decide) (iU (qI h) (iU (rU _) fun w hw=> ?_).2).2;split at hw
 ·simp only[anu] at hw;subst hw;decide
 simp at hw
theorem acK {gl:Gl}{s:PS}{g:akN}(h:nameB g.name=true)(ha:N9 g.advance)(hl:gl.lookup g.name=some s.f.akJ.length):
  stmt gl s (MZ g)= .ok (oC s s.f.akJ ⟨g.name,g.advance,g.mark,[],[],[],[],[],[]⟩):=by
 have hv:fP gl g.name=s.f.akJ.length:=by rw[fP,hl];rfl
 rw[MZ,OD];cases hm:g.mark<;>simp[iO,Fb h,gU _ ha,(eG _ ha).2,hv,oC]
def wY (gs:List akN)(all:Bool)(g:akN):List (List B):=MZ g::((eX g.points 0 g.ends).map Q5++(g.parts.map (ES gs)++(g.anchors.map EK++(g.deltas.map ED++if all|| !g.hint.isEmpty then [hiL g.hint] else []))))
theorem Vu {gl:Gl}{gs:List akN}(hg:alB gl gs)(all:Bool)(s:PS)(g:akN)(h:OkG gs.length g)(hl:gl.lookup g.name=some s.f.akJ.length):
  ak5 gl s (wY gs all g) (oC s s.f.akJ g):=by
 refine .cons (adl h.name) (acK h.name h.adv hl) ?_;have r1:=TQ (gl:=gl) (s:=s) (init:=s.f.akJ) g.points h.pts g.ends 0 [] (nz _) h.ends g.name g.advance g.mark;rw[List.take_zero,an6] at r1;refine r1.app ?_;have r2:=ak5.each (gl:=gl) g.parts (ES gs) (fun d=>oC s s.f.akJ ⟨g.name,g.advance,g.mark,g.points,g.ends,d,[],[],[]⟩) (fun p hp=>adw hg (h.parts p hp).1) (fun done p rest e=>ada hg (h.parts p (by simp[e])));refine r2.app ?_;have r3:=ak5.each (gl:=gl) g.anchors EK (fun d=>oC s s.f.akJ ⟨g.name,g.advance,g.mark,g.points,g.ends,g.parts,d,[],[]⟩) (fun p hp=>ad4 ⟨(h.anch p hp).1,(h.anch p hp).2.1⟩) (fun done p rest e=>aeb (h.anch p (by simp[e])));refine r3.app ?_;have r4:=ak5.each (gl:=gl) g.deltas ED (fun d=>oC s s.f.akJ ⟨g.name,g.advance,g.mark,g.points,g.ends,g.parts,g.anchors,d,[]⟩) (fun p hp=>acW p) (fun done p rest e=>acC (h.alh p (by simp[e])));refine r4.app ?_;split
 ·have:=ak5.one (gl:=gl) (Ri h.hint (by decide:bV nO=true)) (aeg (gl:=gl) (s:=s) (init:=s.f.akJ) (g:=⟨g.name,g.advance,g.mark,g.points,g.ends,g.parts,g.anchors,g.deltas,[]⟩) h.hint);exact this
 rename_i hn;have e:g.hint=[]:=by
  cases hh:g.hint with
  |nil=>rfl
  |cons a r=>rw[hh] at hn;simp at hn
 have e2:g=⟨g.name,g.advance,g.mark,g.points,g.ends,g.parts,g.anchors,g.deltas,[]⟩:=by conv=>rhs;rw[<-e]
 conv=>arg 4;rw[e2]
 exact .nil _ _
theorem Qo {gl:Gl}{gs:List akN}(hg:alB gl gs)(all:Bool)(h:∀g∈gs,OkG gs.length g)(s:PS)(hs:s.f.akJ=[]):ak5 gl s (gs.flatMap (wY gs all)) {s with f:= {s.f with akJ:=gs}} :=by
 have key:=ak5.ams (gl:=gl) gs (wY gs all) (fun d=> {s with f:= {s.f with akJ:=d}}) (fun done g rest e=> ?_)
 ·have e:({s with f:= {s.f with akJ:=[]}} :PS)=s:=by rw[<-hs]
  rw[e] at key;exact key
 exact Vu hg all {s with f:= {s.f with akJ:=done}} g (h g (by simp[e])) (hg.at' done.length g (by rw[e];simp))
theorem XZ {gl:Gl}(l:List alG)(h:∀a∈l,nameB a.name=true/\N9 a.min'/\N9 a.alI/\N9 a.max')(s:PS)(hs:s.f.akP=[]):ak5 gl s (l.map AQ) {s with f:= {s.f with akP:=l}} :=by
 have key:=ak5.each (gl:=gl) l AQ (fun d=> {s with f:= {s.f with akP:=d}}) (fun a ha=>adT (h a ha).1) (fun done a rest e=>acI (h a (by simp[e])));have e:({s with f:= {s.f with akP:=[]}} :PS)=s:=by rw[<-hs]
 rw[e] at key;exact key
theorem Ye {gl:Gl}(l:List Region)(h:∀r∈l,∀t∈r.ak1,N9 t.start/\N9 t.peak/\N9 t.stop)(s:PS)(hs:s.f.regions=[]):ak5 gl s (l.map Bl) {s with f:= {s.f with regions:=l}} :=by
 have key:=ak5.each (gl:=gl) l Bl (fun d=> {s with f:= {s.f with regions:=d}}) (fun a ha=>acO a) (fun done a rest e=>aeo (h a (by simp[e])));have e:({s with f:= {s.f with regions:=[]}} :PS)=s:=by rw[<-hs]
 rw[e] at key;exact key
theorem Us {gl:Gl}(l:List (List Ins))(h:∀p∈l,mG p)(s:PS)(hs:s.f.funcs=[]):ak5 gl s (l.map Pj) {s with f:= {s.f with funcs:=l}} :=by
 have key:=ak5.each (gl:=gl) l Pj (fun d=> {s with f:= {s.f with funcs:=d}}) (fun a ha=>Ri (h a ha) (by decide)) (fun done a rest e=>aeq (h a (by simp[e])));have e:({s with f:= {s.f with funcs:=[]}} :PS)=s:=by rw[<-hs]
 rw[e] at key;exact key
theorem Tn {gl:Gl}{gs:List akN}(hg:alB gl gs)(l:List Chr)(h:∀c∈l,N9 c.rune/\In gs.length c.akY)(s:PS)(hs:s.f.chars=[]):ak5 gl s (l.map (AB gs)) {s with f:= {s.f with chars:=l}} :=by
 have key:=ak5.each (gl:=gl) l (AB gs) (fun d=> {s with f:= {s.f with chars:=d}}) (fun a ha=>aeA hg (h a ha).2) (fun done a rest e=>aeW hg (h a (by simp[e])));have e:({s with f:= {s.f with chars:=[]}} :PS)=s:=by rw[<-hs]
 rw[e] at key;exact key
theorem Uu {gl:Gl}(l:List alo)(h:∀x∈l,nameB x.name=true/\∀n∈x.akK,N9 n)(s:PS)(hs:s.f.features=[]):ak5 gl s (l.map EJ) {s with f:= {s.f with features:=l}} :=by
 have key:=ak5.each (gl:=gl) l EJ (fun d=> {s with f:= {s.f with features:=d}}) (fun a ha=>aey (h a ha).1) (fun done a rest e=>ae0 (h a (by simp[e])));have e:({s with f:= {s.f with features:=[]}} :PS)=s:=by rw[<-hs]
 rw[e] at key;exact key
def EN (gs:List akN)(ws:List (List Int)->List B)(l:Lookup):List (List B):=Oh l::l.rules.map (fun r=>dL::(ws r.back++[47]::ws r.in'++[47]::ws r.ahead++[62]::outW gs l.kind r))
theorem PK {gl:Gl}{gs:List akN}(hg:alB gl gs)(hn:gs.length<=1000)(l:List Lookup)(h:∀x∈l,1<=x.kind/\x.kind<=8/\∀r∈x.rules,OkR gs.length x.kind r)(ws:List (List Int)->List B)
  (hw:∀x:List (List Int),(∀y∈x,∀n∈y,In gs.length n)->Dv gs (ws x) x/\∀w∈ws x,bV w=true) (s:PS) (hs:s.f.akK=[]):ak5 gl s (l.flatMap (EN gs ws)) {s with f:= {s.f with akK:=l}} :=by
 have key:=ak5.ams (gl:=gl) l (EN gs ws) (fun d=> {s with f:= {s.f with akK:=d}}) (fun done x rest e=>by
  obtain⟨h1,h2,h3⟩:=h x (by simp[e]);exact Qd hg hn {s with f:= {s.f with akK:=done}} x ⟨h1,h2⟩ h3 ws hw)
 have e:({s with f:= {s.f with akK:=[]}} :PS)=s:=by rw[<-hs]
 rw[e] at key;exact key
theorem X7 {gl:Gl}{u:Int}(h:N9 u):ak5 gl ps0 [[lI,ah u]] {ps0 with unit:=true,f:= {f0 with unit:=u}} :=by refine .one (iU (by decide) (by simpa using rU u)) ?_;rw[RD];simp[qh,gU _ h,(eG _ h).2,ps0,f0]
def yc (f:Fnt):List (List B):=[[lI,ah f.unit]]++(f.akP.map AQ++(f.regions.map Bl++((if f.cvt.isEmpty then [] else [mr::f.cvt.map ah])++(f.funcs.map Pj++(f.akJ.flatMap (wY f.akJ false)++(f.chars.map (AB f.akJ)++(f.akK.flatMap (EN f.akJ (di f.akJ))++f.features.map EJ)))))))
theorem TK {gl:Gl}{f:Fnt}(h:al1 f)(hg:alB gl f.akJ):ak5 gl ps0 (yc f) ⟨f,true,[]⟩:=by
 refine(X7 h.unit).app ?_;refine(XZ f.akP h.akP _ rfl).app ?_;refine(Ye f.regions h.regs _ rfl).app ?_;have rc:∀s:PS,s.f.cvt=[]->ak5 gl s (if f.cvt.isEmpty then [] else [mr::f.cvt.map ah]) {s with f:= {s.f with cvt:=f.cvt}} :=fun s hs=>by
  split
  ·rename_i he;have e:f.cvt=[]:=by simpa using he
   have e2:({s with f:= {s.f with cvt:=f.cvt}} :PS)=s:=by rw[e,<-hs]
   rw[e2];exact .nil _ _
  have:=ak5.one (gl:=gl) (iU (by decide:bV mr=true) (JD f.cvt)) (adF (s:=s) h.cvt);rw[hs] at this;exact this
 refine(rc _ rfl).app ?_;refine(Us f.funcs h.funcs _ rfl).app ?_;refine(Qo hg false h.akJ _ rfl).app ?_;refine(Tn hg f.chars h.chars _ rfl).app ?_;refine(PK hg h.few f.akK h.akK (di f.akJ) (fun x hx=>⟨aaf hg x hx,fun w hw=>(zt hg x hx w hw).2.2⟩) _ rfl).app ?_;exact Uu f.features h.ak0 _ rfl
def uJ (L:List (List B)):Prop:=∀l∈L,∀w r,l=w::r->w≠dY
theorem oG (L R:List (List B))(h:uJ L)(n:Nat):bf n (L++R)=bf n R:=by
 induction L with
 |nil=>rfl
 |cons l L ih=>
  have:=ih (fun x hx=>h x (by simp[hx]));cases l with
  |nil=>rw[anL,VA];exact this
  |cons w r=>rw[anL,iY,if_neg (h (w::r) (by simp) w r rfl)];exact this
theorem vY {a b:List (List B)}(ha:uJ a)(hb:uJ b):uJ (a++b):=fun l hl=>by
 rw[anz] at hl;rcases hl with hl|hl
 ·exact ha l hl
 exact hb l hl
theorem oJ {α:Type}(l:List α)(f:α->List B)(h:∀x∈l,∀w r,f x=w::r->w≠dY):uJ (l.map f):=fun y hy=>by
 rw[anZ] at hy;obtain⟨x,hx,rfl⟩:=hy;exact h x hx
theorem Zb {α:Type}(l:List α)(f:α->List (List B))(h:∀x∈l,uJ (f x)):uJ (l.flatMap f):=fun y hy=>by
 rw[an8] at hy;obtain⟨x,hx,hy⟩:=hy;exact h x hx y hy
def lX:Nat->List akN->Gl
 |_,[]=>[]
 |n,g::gs=>(g.name,n)::lX (n+1) gs
theorem KY (G:List akN)(all:Bool)(gs:List akN)(hn:∀g∈gs,nameB g.name=true)(R:List (List B))(hR:uJ R)(n:Nat):bf n (gs.flatMap (wY G all)++R)=lX n gs:=by
 induction gs generalizing n with
 |nil=>simpa [lX,bf] using oG R [] hR n
 |cons g gs ih=>
  have hno:uJ ((eX g.points 0 g.ends).map Q5++(g.parts.map (ES G)++(g.anchors.map EK++(g.deltas.map ED++if all|| !g.hint.isEmpty then [hiL g.hint] else [])))):=by
   refine vY (oJ _ _ fun x _ w r e=> ?_) (vY (oJ _ _ fun x _ w r e=> ?_) (vY (oJ _ _ fun x _ w r e=> ?_) (vY (oJ _ _ fun x _ w r e=> ?_) ?_)))
   ·injection e with e _;rw[<-e];decide
   ·injection e with e _;rw[<-e];decide
   ·injection e with e _;rw[<-e];decide
   ·injection e with e _;rw[<-e];decide
   split
   ·intro l hl w r e;simp only[anu] at hl;subst hl;injection e with e _
    rw[<-e];decide
   intro l hl;simp at hl
  rw[anM,wY,anL,anL,MZ,iY,if_pos rfl,yA];simp only[hn g (by simp),if_true];rw[anH,oG _ _ hno,ih (fun x hx=>hn x (by simp[hx]))];rfl
theorem ZE (gs:List akN)(h:(gs.map (·.name)).Nodup)(n:Nat)(i:Nat)(g:akN)(hi:gs[i]? =some g):(lX n gs).lookup g.name=some (n+i):=by
 induction gs generalizing n i with
 |nil=>simp at hi
 |cons a gs ih=>
  rw[anE,List.nodup_cons] at h;cases i with
  |zero=>simp only[anF,anV] at hi;subst hi;simp[lX,List.lookup]
  |succ i=>
   simp only[anI] at hi;have hne:g.name≠a.name:=fun e=>h.1 (by rw[<-e];exact List.mem_map_of_mem (anC hi))
   have hb:(g.name==a.name)=false:=by simpa using hne
   rw[lX,List.lookup,hb];show(lX (n+1) gs).lookup g.name=_;rw[ih h.2 (n+1) i hi];congr 1
   omega
theorem adS (gs:List akN)(ws:List (List Int)->List B)(l:List Lookup):uJ (l.flatMap (EN gs ws)):=Zb _ _ fun x _=>by
 intro y hy w r e;rw[EN,anG,anZ] at hy;rcases hy with rfl|⟨q,_,rfl⟩
 ·injection e with e _;rw[<-e];decide
 injection e with e _;rw[<-e];decide
theorem aeG (l:List alG):uJ (l.map AQ):=oJ _ _ fun x _ w r e=>by injection e with e _;rw[<-e];decide
theorem adE (l:List Region):uJ (l.map Bl):=oJ _ _ fun x _ w r e=>by injection e with e _;rw[<-e];decide
theorem aeI (l:List (List Ins)):uJ (l.map Pj):=oJ _ _ fun x _ w r e=>by injection e with e _;rw[<-e];decide
theorem acQ (gs:List akN)(l:List Chr):uJ (l.map (AB gs)):=oJ _ _ fun x _ w r e=>by injection e with e _;rw[<-e];decide
theorem adf (l:List alo):uJ (l.map EJ):=oJ _ _ fun x _ w r e=>by injection e with e _;rw[<-e];decide
theorem acJ (u:B):uJ [[lI,u]]:=fun l hl w r e=>by
 simp only[anu] at hl;subst hl;injection e with e _
 rw[<-e];decide
theorem Vb {f:Fnt}(h:al1 f):alB (bf 0 (yc f)) f.akJ:=by
 have hc:uJ (if f.cvt.isEmpty then [] else [mr::f.cvt.map ah]):=by
  split
  ·intro l hl;simp at hl
  intro l hl w r e;simp only[anu] at hl;subst hl;injection e with e _
  rw[<-e];decide
 have e:bf 0 (yc f)=lX 0 f.akJ:=by rw[yc,oG _ _ (acJ _),oG _ _ (aeG _),oG _ _ (adE _),oG _ _ hc,oG _ _ (aeI _)];exact KY _ _ _ (fun g hg=>(h.akJ g hg).name) _ (vY (acQ _ _) (vY (adS _ _ _) (adf _))) 0
 rw[e];exact⟨fun i g hi=>by rw[ZE _ h.apart 0 i g hi,aoc],fun g hg=>(h.akJ g hg).name⟩
theorem Qp (L:List (List B))(f:Fnt)(b:Bool)(c:List (B×List Int))(h:ak5 (bf 0 L) ps0 L ⟨f,b,c⟩):nZ (L.flatMap uU)= .ok f:=by rw[nZ,UF L h.1,Yp,h.2 1];rfl
theorem zn {α:Type}(l:List α)(f:α->List B):(l.map f).flatMap uU=l.flatMap (fun x=>uU (f x)):=by
 induction l with
 |nil=>rfl
 |cons a r ih=>simp[ih]
theorem PZ (gs:List akN)(g:akN):(wY gs false g).flatMap uU=dQ gs g:=by
 rw[wY,dQ];simp only[anM,an2,zn,anH];congr 1
 congr 1
 congr 1
 congr 1
 congr 1
 cases h:g.hint.isEmpty<;>simp[hiL,uU]
theorem NU (gs:List akN)(l:Lookup):(EN gs (di gs) l).flatMap uU=dN gs l:=by rw[EN,dN];simp only[anM,zn];rfl
theorem Gy (f:Fnt):(yc f).flatMap uU=lJ f:=by
 rw[yc,lJ];simp only[an2,zn,anH,anM,aoe,an0,List.flatMap_assoc,PZ,NU];congr 1
 congr 1
 congr 1
 congr 1
 cases h:f.cvt.isEmpty<;>simp[uU]
theorem Vw {f:Fnt}(h:al1 f):nZ (lJ f)= .ok f:=by rw[<-Gy];exact Qp _ _ _ _ (TK h (Vb h))
def ak9 (e size:Nat)(w:World)(rb p:Nat)(err:Int)(n:Nat)(xs:List Value)(v:Value)(wr:World):Prop:=∃A c,v= .slice A n c/\wr.ownsRow w.heap.size e size (.slice A n c) n xs/\Rdr wr rb p err/\w.grownBy wr (some rb)
def Ol (e size:Nat)(w:World)(rb p:Nat)(err:Int)(n:Nat)(xs:List Value)(en:Ending)(w':World):Prop:=∃v,en= .returned v/\ak9 e size w rb p err n xs v w'
theorem ak9.start {e size:Nat}{w w1:World}{rb p:Nat}{err:Int}(h:Rdr w1 rb p err)(hg:w.grownBy w1 (some rb)):ak9 e size w rb p err 0 [] (.slice none 0 0) w1:=⟨none,0,rfl,World.ownsRow_nil _ _ _ _,h,hg⟩
theorem bY {w:World}{base e size n g:Nat}{v:Value}{xs:List Value}{t:TypeId}{cs:Array Value}(h:w.ownsRow base e size v n xs)(hb:Bk w g t cs)(hne:t≠e):v.ownBlock=none\/v.ownBlock≠some g:=by
 cases hv:v.ownBlock with
 |none=>exact .inl rfl
 |some k=>
  refine .inr (fun e'=> ?_);injection e' with e'
  subst e';obtain⟨cur,hk⟩:=bg h hv;exact hne (bU hb hk).1
theorem ak9.next {e size:Nat}{w wr w1 w2:World}{rb p:Nat}{err err':Int}{n n':Nat}{xs xs':List Value}{A A2:Option Addr}{c c2:Nat}(h1:wr.ownsRow w.heap.size e size (.slice A n c) n xs)(h2:Rdr wr rb p err)(h3:w.grownBy wr (some rb))
  (hr:Rdr w1 rb p err') (hg:wr.grownBy w1 (some rb)) (ho:w2.ownsRow w.heap.size e size (.slice A2 n' c2) n' xs') (hg2:w1.grownBy w2 (Value.slice A n c).ownBlock) (hne:MM≠e):ak9 e size w rb p err' n' xs' (.slice A2 n' c2) w2:=by
 have ho1:=h1.kept hg (bY h1 h2 hne);exact⟨A2,c2,rfl,ho,Bk.grown hr hg2 ho1 hne,KT (df h3 hg) hg2 (fun g e=>(h1.lt g e).1)⟩
theorem Ja {w w':World}{rb p:Nat}{err:Int}{A:Option Addr}{n:Nat}{cs:List Value}(h:RdT w 124 A n 3 cs)(hr:Rdr w rb p err)(hg:w.grownBy w' (some rb)):RdT w' 124 A n 3 cs:=h.grown hg (fun g e=>by cases e;exact⟨_,_,hr,by decide⟩)
theorem yx {w wr:World}{rb p:Nat}{err:Int}{A:Option Addr}{n k:Nat}{ws:List P3}(hw:RdT w 124 A n 3 (dD ws))(hr:Rdr w rb p err)(hg:w.grownBy wr (some rb))(hk:k<n):
  ∃b o x y z,A=some ⟨b,o,none⟩/\Hid (ws[k]? =some (x,y,z))/\wr.cell? ⟨b,o+k*3,none⟩=some (.int .i64 x)/\wr.cell? ⟨b,o+k*3+1,none⟩=some (.int .i64 y)/\wr.cell? ⟨b,o+k*3+2,none⟩=some (.string ⟨z.toArray⟩):=by
 obtain⟨b,o,x,y,z,e,-,hp,q1,q2,q3⟩:=(Ja hw hr hg).rd.at3 hk;exact⟨b,o,x,y,z,e,hp,q1,q2,q3⟩
def ag (ws:List P3):List B:=ws.map (·.2.2)
theorem iC (ws:List P3):(ag ws).length=ws.length:=by simp[ag]
theorem uK {ws:List P3}{k:Nat}{x y:Int}{z:B}(h:ws[k]? =some (x,y,z)):(ag ws).take (k+1)=(ag ws).take k++[z]:=by obtain⟨hk,hg⟩:=anv.1 h;rw[anK (by rw[iC];exact hk)];simp[ag,hg]
theorem Rdr.alloc {w:World}{rb p:Nat}{err:Int}(h:Rdr w rb p err)(o:Obj):Rdr (w.alloc o) rb p err:=Bk.alloc h o
theorem XE {l m:List B}{z:B}(h:m=l++[z]):aH (m.map aI)=aH (l.map aI)++[.int .i64 (aI z)]:=by subst h;simp[aH,cI]
theorem Ua {l m:List B}{z:B}(err:Int)(h:m=l++[z]):fD err m=aK (fD err l) z:=by subst h;simp[fD]
theorem vI (w:World)(rb p:Nat)(err:Int)(A:Option Addr)(n c:Nat)(ws:List P3)(hR:Rdr w rb p err)(hw:RdT w 124 A n 3 (dD ws))(hl:∀x∈ws,x.2.2.length<=100000000)(hn:n<=1000000000):
  Calls Tryz.prog 124 #[.pointer (some ⟨rb,0,none⟩),.slice A n c] w (Ol 3 1 w rb p (fD err (ag ws)) n (aH ((ag ws).map aI))):=by
 have hwl:=hd0 hw.rd.alH;have HR:=hd0 hR;have HW:=hd0 hw;have HL:=hd0 hl;clear hR hw hl;go_enter Tryz.func124,Tryz.ntmps124
 go_wp2;go_loopw [5,10] (fun v i wr=>∃k:Nat,k<=n/\i= .int .i64 k/\ak9 3 1 w rb p (fD err ((ag ws).take k)) k (aH (((ag ws).take k).map aI)) v wr) (fun _ i _=>n - (intOf i).toNat)
 case atStart=>exact⟨0,nz _,rfl,ak9.start HR.out (World.grownBy.refl _ _)⟩
 case round=>
  obtain⟨k,hk,rfl,A4,c4,rfl,ho,hr,hg⟩:=hrel;by_cases hlt:k<n
  ·obtain⟨b,o,x,y,z,rfl,hp,q1,q2,q3⟩:=yx HW.out HR.out hg hlt;have hz:z.length<=100000000:=HL.out _ (uw hp.out);have hs:=uK hp.out;have hs1:=hd0 (XE hs);have hs2:=hd0 (Ua err hs);have hr0:=hd0 hr;have hn1:=hd0 (dP _ rb p _ z (hr.alloc (.cells #[.int .i64 x,.int .i64 y,.string ⟨z.toArray⟩] 124)) hz);have hg0:wr.grownBy (wr.alloc (.cells #[.int .i64 x,.int .i64 y,.string ⟨z.toArray⟩] 124)) (some rb):=World.grownBy_alloc _ _ _;have hsz:=hg.size;generalize aH (((ag ws).take k).map aI)=xs at*
   clear hp hs hz hr;go_wp2_with (first
    |(go_at_call 122;refine hn1.out.mono ?_;rintro e w1 ⟨rfl,hr1,hg1⟩;have hg2:=df hg0 hg1;have z1:=hg2.size)
    |(at_builtin;refine iP iL rfl (.tmp 14) (.tmp 19) rfl w1 _ rfl w.heap.size k c4 A4 xs #[.int .i64 (aI z)] rfl rfl rfl (ho.kept hg2 (bY ho hr0.out (by decide))) (by simp[Value.oneCell']) (by omega) (by omega) ?_;intro A5 c5 w2 ho2 hg3 _))
   go_roundw
   case rel=>exact⟨k+1,by omega,by simp,by rw[hs1.out,hs2.out];exact ak9.next ho hr0.out hg hr1 hg2 ho2 hg3 (by decide)⟩
   case measure=>simp[intOf];omega
  obtain rfl:k=n:=by omega
  have ht:Hid ((ag ws).take k=ag ws):=by show _=_;exact anN (by rw[iC,hwl.out];exact af _)
  rw[ht.out] at ho hr;go_wp2;go_ret
  exact⟨_,rfl,A4,c4,rfl,ho,hr,hg⟩
end
section
open Go.RowKit Go.Sort
theorem xg (a b:B)(ha:a.length<=1000000)(hb:b.length<=1000000):∃u:B,(∀w,(Op.stringOp .add ⟨a.toArray⟩ ⟨b.toArray⟩).run Tryz.prog w= .ok (.string ⟨u.toArray⟩) w)/\u.length<=a.length+b.length/\Hid (u=a++b):=⟨a++b,fun w=>run_string_add_lists w a b (by omega) (by omega),by simp,rfl⟩
theorem TD (w:World)(Bd g:Nat)(fc:Nat->Value)(txt:B)(A:Option Addr)(c:Nat)(l:List Pt)(hT:Tabs w)(hp:Pr w Bd g fc txt)(hBd:Bd<=w.heap.size)(hA:Sl PtR 3 w (FT w) A l)(hl:l.length<=10000000000)(hlen:txt.length+(ay fU (l.map jq)).length<=1000000000000):
  Calls Tryz.prog 95 #[.pointer (some ⟨g,0,none⟩),.slice A l.length c] w fun e w'=>e= .returned (.tuple #[])/\Pr w' Bd g fc (txt++ay fU (l.map jq))/\KP w w'/\Below Bd w w':=by
 have hTL:(l.map jq).length<=l.length:=by simp
 go_enter Tryz.func95,Tryz.ntmps95
 go_wp2;go_loopw [4,10] (fun v i wr=>∃k:Nat,k<=l.length/\i= .int .i64 k/\alA w ((l.take k).map jq) v wr) (fun _ i _=>l.length - (intOf i).toNat)
 case atStart=>exact⟨0,nz _,rfl,by simpa using alA.nil w⟩
 case round=>
  obtain⟨k,hk,rfl,A3,c3,rfl,hown,hbl⟩:=hrel;have hlk:((l.take k).map jq).length<=k:=by simp;omega
  by_cases hlt:k<l.length
  ·obtain⟨b,o,x,rfl,-,hx,q0,q1,q2,r0,r1⟩:=((KP.below hbl).sl PtR.ok hA).pt hlt;have HS:=hd0 (mW jq l k x hx.out);generalize hws:(l.take k).map jq=ws at*
   have s0:=hbl.size;have hN0:alK w ws ws.length A3 c3 wr:=⟨rfl,hown,hbl⟩
   have hll:ws.length<=100000000000:=by omega
   obtain⟨x0,x1,on⟩:=x;dsimp only at q0 q1 q2 r0 r1;have hT1:=hT.all hbl;have n0:=hd0 (fun w hT=>aX w x0 hT r0);have n1:=hd0 (fun w hT=>aX w x1 hT r1);have l0:=uu r0;have l1:=uu r1;have HP:Hid (jq ⟨x0,x1,on⟩=ah x0++44::ah x1++if on then [] else [42]):=rfl;generalize ah x0=t0 at*
   generalize ah x1=t1 at*
   obtain⟨u1,a1,m1,U1⟩:=xg t0 [44] (by omega) (by simp);obtain⟨u2,a2,m2,U2⟩:=xg u1 t1 (by simp only[aT,ln] at m1;omega) (by omega);obtain⟨u3,a3,m3,U3⟩:=xg u2 [42] (by simp only[aT,ln] at m1;omega) (by simp);simp only[aT,ln] at m1 m3;clear hx hws hlk r0 r1;go_wp2_with fail
   obtain⟨W1,hW1⟩:∃W1,wr.alloc (.cells #[.int .i64 x0,.int .i64 x1,.bool on] 139)=W1:=⟨_,rfl⟩
   rw[hW1];have hb0:Below wr.heap.size wr W1:=by rw[<-hW1];exact(ant _ _).alloc (af _) _
   have hT2:=hT1.all hb0;have k0:W1.cell? ⟨wr.heap.size,0,none⟩=some (.int .i64 x0):=by rw[<-hW1];simp[go_sem]
   have k1:W1.cell? ⟨wr.heap.size,1,none⟩=some (.int .i64 x1):=by rw[<-hW1];simp[go_sem]
   have k2:W1.cell? ⟨wr.heap.size,2,none⟩=some (.bool on):=by rw[<-hW1];simp[go_sem]
   have z0:=hb0.size;clear hW1 q0 q1 q2
   go_region_held3 (fun w'=>w'.cell? ⟨wr.heap.size,0,none⟩=some (.int .i64 x0)/\w'.cell? ⟨wr.heap.size,1,none⟩=some (.int .i64 x1))
    (first
     |exact⟨ae hc2 k0,ae hc2 k1⟩
     |exact⟨ae hc1 k0,ae hc1 k1⟩
     |go_keep)
    (first
     |(go_at_call 42;refine(n0.out _ hT2.drew).mono ?_;rintro e w1 ⟨rfl,hb1⟩;have hc1:=jT hb1;have z1:=hc1.size)
     |(go_at_call 42;refine(n1.out _ (hT2.all hc1)).mono ?_;rintro e w2 ⟨rfl,hb2⟩;have hc2:=bt hc1 hb2;have z2:=hc2.size))
   have k3:=ae hc2 k2;have hbw:=bt hb0 hc2;cases on with
   |true=>
    go_wp2_with (at_builtin;refine bI rfl (.tmp 27) (.tmp 29) rfl w2 w.heap.size ws.length c3 A3 (strs ws) u2 rfl rfl (own_below hown hbw) (by omega) (by omega) ?_;intro A4 c4 w4 fJ hg4)
    have EH:=hN0.next (us:=[u2]) hbw fJ hg4;go_roundw
    case rel=>exact⟨k+1,by omega,by simp,by rw[HS.out,HP.out];rw[U2.out,U1.out] at EH;simpa using EH.s⟩
    case measure=>simp[intOf];omega
   |false=>
    go_wp2_with (at_builtin;refine bI rfl (.tmp 27) (.tmp 29) rfl w2 w.heap.size ws.length c3 A3 (strs ws) u3 rfl rfl (own_below hown hbw) (by omega) (by omega) ?_;intro A4 c4 w4 fJ hg4)
    have EH:=hN0.next (us:=[u3]) hbw fJ hg4;go_roundw
    case rel=>exact⟨k+1,by omega,by simp,by rw[HS.out,HP.out];rw[U3.out,U2.out,U1.out] at EH;simpa using EH.s⟩
    case measure=>simp[intOf];omega
  obtain rfl:k=l.length:=by omega
  have HL:Hid ((l.take l.length).map jq=l.map jq):=by show _=_;rw[anA]
  rw[<-HL.out] at hlen hTL;generalize hws:(l.take l.length).map jq=ws at*
  have hb3:=hp.below hbl;have hs3:=lN hown;have hw3:ws.length<=1000000000000:=by omega
  clear hws hlk;go_wp2_with (go_at_call 41;((with_reducible refine(DI _ Bd g fc txt fU A3 c3 ws hb3 hs3 hlen hw3).mono ?_);rintro e w4 ⟨rfl,QQ,hk4,hb4⟩))
  go_end0
  rw[<-HL.out];exact⟨rfl,QQ,(KP.below hbl).trans hk4,(hbl.mono hBd).trans hb4⟩
end
section
open Go.RowKit
theorem oO {α β:Type}(l:List α)(f:α->List β)(k n:Nat)(h:∀x∈l,(f x).length<=k)(hl:l.length<=n):(l.flatMap f).length<=n*k:=by
 have:(l.flatMap f).length<=l.length*k:=by
  clear hl;induction l with
  |nil=>simp
  |cons a r ih=>rw[anM,la,aT,aom];have:=h a (by simp);have:=ih (fun x hx=>h x (by simp[hx]));omega
 exact nt this (Nat.mul_le_mul_right k hl)
theorem wC (n:Int)(h:N9 n):(ah n).length<=10:=by
 unfold N9 at h;unfold ah Lib.itoa;split
 ·have:=(DK n.natAbs (by omega)).2;rw[aT];omega
 have:=(DK n.toNat (by omega)).2;omega
theorem wZ {s:B}(h:nameB s=true):s.length<=16:=by rw[nameB,anT,decide_eq_true_iff] at h;exact h.1.2
def W32 (l:List B):Prop:=∀w∈l,w.length<=32
theorem W32.nil:W32 []:=fun w h=>by simp at h
theorem W32.cons {w:B}{l:List B}(h:w.length<=32)(k:W32 l):W32 (w::l):=fun x hx=>by
 rw[anG] at hx;rcases hx with rfl|hx
 ·exact h
 exact k x hx
theorem W32.app {a b:List B}(h:W32 a)(k:W32 b):W32 (a++b):=fun x hx=>by
 rw[anz] at hx;rcases hx with hx|hx
 ·exact h x hx
 exact k x hx
theorem W32.map {α:Type}{l:List α}{f:α->B}(h:∀x∈l,(f x).length<=32):W32 (l.map f):=fun w hw=>by
 rw[anZ] at hw;obtain⟨x,hx,rfl⟩:=hw;exact h x hx
theorem W32.flat {α:Type}{l:List α}{f:α->List B}(h:∀x∈l,W32 (f x)):W32 (l.flatMap f):=fun w hw=>by
 rw[an8] at hw;obtain⟨x,hx,hw⟩:=hw;exact h x hx w hw
theorem W32.it {l:List Int}(h:∀n∈l,N9 n):W32 (l.map ah):=W32.map fun n hn=>nt (wC n (h n hn)) (by decide)
theorem Zl (l:List B)(h:W32 l):(fC l).length<=33*l.length:=by have:(fC l).length<=l.length*33:=oO l _ 33 l.length (fun w hw=>by rw[aT];have:=h w hw;omega) (af _);omega
def Lk (L:List (List B))(k:Nat):Prop:=(L.flatMap uU).length<=k
theorem Lk.line {l:List B}{n:Nat}(h:W32 l)(hl:l.length<=n):Lk [l] (33*n+1):=by
 unfold Lk;cases l with
 |nil=>simp[uU]
 |cons w r=>simp only[anM,aoe,an0,uU,ay,la,aT,ln];have h1:=h w (by simp);have h2:=Zl r (fun x hx=>h x (by simp[hx]));rw[aT] at hl;omega
theorem Lk.mono {L:List (List B)}{k n:Nat}(h:Lk L k)(hk:k<=n):Lk L n:=nt h hk
theorem Lk.nil (k:Nat):Lk [] k:=nz _
theorem Lk.app {a b:List (List B)}{k n:Nat}(h:Lk a k)(g:Lk b n):Lk (a++b) (k+n):=by
 unfold Lk at*
 rw[an2,la];omega
theorem Lk.cons {l:List B}{b:List (List B)}{k n:Nat}(h:Lk [l] k)(g:Lk b n):Lk (l::b) (k+n):=h.app g
theorem Lk.map {α:Type}{l:List α}{f:α->List B}{k n:Nat}(h:∀x∈l,Lk [f x] k)(hl:l.length<=n):Lk (l.map f) (n*k):=by
 unfold Lk at*
 rw[zn];exact oO l _ k n (fun x hx=>by have:=h x hx;simpa using this) hl
theorem Lk.flat {α:Type}{l:List α}{f:α->List (List B)}{k n:Nat}(h:∀x∈l,Lk (f x) k)(hl:l.length<=n):Lk (l.flatMap f) (n*k):=by
 unfold Lk at*
 rw[List.flatMap_assoc];exact oO l _ k n h hl
structure SmR (r:als):Prop where
 rows:r.back.length<=3/\r.in'.length<=3/\r.ahead.length<=3
 sets:(∀s∈r.back,s.length<=4)/\(∀s∈r.in',s.length<=4)/\∀s∈r.ahead,s.length<=4
 outs:r.out.length<=4/\r.calls.length<=2
structure SmG (g:akN):Prop where
 pts:g.points.length<=12
 ends:g.ends.length<=2
 parts:g.parts.length<=1
 anch:g.anchors.length<=5
 alh:g.deltas.length<=40
 hint:g.hint.length<=60
structure SmF (f:Fnt):Prop where
 akJ:f.akJ.length<=10/\∀g∈f.akJ,SmG g
 chars:f.chars.length<=16
 akK:f.akK.length<=6/\∀l∈f.akK,l.rules.length<=3/\∀r∈l.rules,SmR r
 ak0:f.features.length<=8/\∀x∈f.features,x.akK.length<=6
 akP:f.akP.length<=2
 regs:f.regions.length<=3/\∀r∈f.regions,r.ak1.length<=2
 funcs:f.funcs.length<=2/\∀p∈f.funcs,p.length<=60
 cvt:f.cvt.length<=3
theorem aen:∀s∈opNames,s.length<=8:=by decide
theorem Zh:∀s∈aG,s.length<=9:=by decide
theorem WC:∀s∈anchorNames,s.length<=9:=by decide
theorem FK (l:List B)(k:Nat)(h:∀s∈l,s.length<=k)(hk:1<=k)(n:Int):(pick l n).length<=k:=by
 unfold pick;split
 ·exact hk
 cases e:l[(n - 1).toNat]? with
 |none=>exact hk
 |some s=>exact h s (anC e)
theorem Dl {gs:List akN}(h:∀g∈gs,nameB g.name=true){n:Int}(hn:In gs.length n):(cO gs n).length<=32:=by obtain⟨h1,h2⟩:=hn;have e:gs[n.toNat]? =some (gs[n.toNat]'(by omega)):=anw (by omega);unfold cO;rw[if_neg (by omega),e];exact nt (wZ (h _ (List.getElem_mem _))) (by decide)
theorem abG {i:Ins}(h:N9 i.a):(dC i).length<=32:=by
 have h1:=FK opNames 8 aen (by decide) i.op;have h2:=wC i.a h;unfold dC lH;rw[la];split
 ·simp only[ln];omega
 rw[aT];omega
theorem adH {p:Pt}(h:N9 p.x/\N9 p.y):(jq p).length<=32:=by
 have h1:=wC p.x h.1;have h2:=wC p.y h.2;unfold jq;simp only[la,aT];split
 ·simp only[ln];omega
 simp only[aT,ln];omega
theorem Z7 {c:Call}(h:N9 c.at'/\N9 c.lookup):(ah c.at'++58::ah c.lookup).length<=32:=by have h1:=wC c.at' h.1;have h2:=wC c.lookup h.2;simp only[la,aT];omega
theorem n32 {n:Int}(h:N9 n):(ah n).length<=32:=nt (wC n h) (by decide)
theorem aeK {p:List Ins}(h:mG p):W32 (p.map dC):=W32.map fun i hi=>abG (h i hi).2.2
theorem QM {p:List Ins}(h:mG p)(hl:p.length<=60){a:B}(ha:a.length<=32):Lk [a::p.map dC] 2014:=Lk.line (n:=61) (.cons ha (aeK h)) (by rw[aT,anB];omega)
theorem Xh (pts:List Pt)(es:List Int):∀fr,(eX pts fr es).length<=es.length/\∀c∈eX pts fr es,c.length<=pts.length/\∀p∈c,p∈pts:=by
 induction es with
 |nil=>intro fr;simp[eX]
 |cons e es ih=>
  intro fr;rw[eX];split
  ·simp
  obtain⟨h1,h2⟩:=ih (e.toNat+1);refine⟨by simp only[aT];omega,fun c hc=> ?_⟩;rw[anG] at hc;rcases hc with rfl|hc
  ·refine⟨?_,fun p hp=>List.mem_of_mem_take (List.mem_of_mem_drop hp)⟩;rw[an9,anQ];omega
  exact h2 c hc
theorem aab {gs:List akN}(hn:∀g∈gs,nameB g.name=true)(all:Bool){g:akN}(h:OkG gs.length g)(hs:SmG g):Lk (wY gs all g) 10610:=by
 unfold wY;have e:10610=133+(2*430+(1*133+(5*166+(40*166+2014)))):=rfl;rw[e];obtain⟨c1,c2⟩:=Xh g.points g.ends 0;refine .cons (Lk.line (n:=4) (.cons (by decide) (.cons (nt (wZ h.name) (by decide)) (.cons (n32 h.adv) ?_))) ?_) (.app (.map (fun c hc=> ?_) (nt c1 hs.ends)) (.app (.map (fun p hp=> ?_) hs.parts) (.app (.map (fun a ha=> ?_) hs.anch) (.app (.map (fun d hd=> ?_) hs.alh) ?_))))
 ·split
  ·exact .cons (by decide) .nil
  exact .nil
 ·unfold MZ;simp only[aT];split<;>simp
 ·obtain⟨d1,d2⟩:=c2 c hc;exact Lk.line (n:=13) (.cons (by decide) (.map fun p hp=>adH (h.pts p (d2 p hp)))) (by unfold Q5;rw[aT,anB];have:=hs.pts;omega)
 ·have:=h.parts p hp;exact Lk.line (n:=4) (.cons (by decide) (.cons (Dl hn this.1) (.cons (n32 this.2.1) (.cons (n32 this.2.2) .nil)))) (by simp[ES])
 ·have:=h.anch a ha;exact Lk.line (n:=5) (.cons (by decide) (.cons (nt (FK _ 9 WC (by decide) _) (by decide)) (.cons (n32 this.2.2.1) (.cons (n32 this.2.2.2.1) (.cons (n32 this.2.2.2.2) .nil))))) (by simp[EK])
 ·have:=h.alh d hd;exact Lk.line (n:=5) (.cons (by decide) (.cons (n32 this.1) (.cons (n32 this.2.1) (.cons (n32 this.2.2.1) (.cons (n32 this.2.2.2) .nil))))) (by simp[ED])
 split
 ·exact QM h.hint hs.hint (by decide)
 exact .nil _
theorem ae2 {gs:List akN}(hn:∀g∈gs,nameB g.name=true){ws:List (List Int)->List B}(hw:∀l,(∀s∈l,∀n∈s,In gs.length n)->(∀s∈l,s.length<=4)->l.length<=3->W32 (ws l)/\(ws l).length<=18){kind:Int}{r:als}(h:OkR gs.length kind r)(hs:SmR r):
  Lk [dL::(ws r.back++[47]::ws r.in'++[47]::ws r.ahead++[62]::outW gs kind r)] 2047:=by
 obtain⟨a1,a2⟩:=hw r.back (fun s hs=>(h.back s hs).2) hs.sets.1 hs.rows.1;obtain⟨b1,b2⟩:=hw r.in' (fun s hs=>(h.in' s hs).2) hs.sets.2.1 hs.rows.2.1;obtain⟨c1,c2⟩:=hw r.ahead (fun s hs=>(h.ahead s hs).2) hs.sets.2.2 hs.rows.2.2;have ho:W32 (outW gs kind r)/\(outW gs kind r).length<=4:=by
  unfold outW;split
  ·exact⟨.map fun n hn'=>Dl hn (h.out n hn'),by rw[anB];exact hs.outs.1⟩
  split
  ·exact⟨.map fun c hc=>Z7 (h.calls c hc),by rw[anB];have:=hs.outs.2;omega⟩
  split
  ·exact⟨.cons (n32 h.x) .nil,by simp⟩
  exact⟨.nil,by simp⟩
 refine Lk.line (n:=62) (.cons (by decide) ((((a1.app (.cons (by decide) b1)).app (.cons (by decide) c1))).app (.cons (by decide) ho.1))) ?_;simp only[aT,la];omega
theorem VG {gs:List akN}(hn:∀g∈gs,nameB g.name=true){ws:List (List Int)->List B}(hw:∀l,(∀s∈l,∀n∈s,In gs.length n)->(∀s∈l,s.length<=4)->l.length<=3->W32 (ws l)/\(ws l).length<=18){l:Lookup}
  (h:∀r∈l.rules,OkR gs.length l.kind r) (hs:l.rules.length<=3/\∀r∈l.rules,SmR r):Lk (EN gs ws l) 6241:=by
 unfold EN;have e:6241=100+3*2047:=rfl;rw[e];refine .cons (Lk.line (n:=3) (.cons (by decide) (.cons (nt (FK _ 9 Zh (by decide) _) (by decide)) ?_)) ?_) (.map (fun r hr=>ae2 hn hw (h r hr) (hs.2 r hr)) hs.1)
 ·split
  ·exact .cons (by decide) .nil
  exact .nil
 unfold Oh;simp only[aT];split<;>simp
theorem acz {gs:List akN}(hn:∀g∈gs,nameB g.name=true)(l:List (List Int))(h:∀s∈l,∀n∈s,In gs.length n)(h4:∀s∈l,s.length<=4)(h3:l.length<=3):W32 (di gs l)/\(di gs l).length<=18:=by
 unfold di;refine⟨.flat fun s hs=> ?_,oO l _ 6 3 (fun s hs=> ?_) h3⟩
 ·unfold setW;split
  ·exact .cons (Dl hn (h _ hs _ (by simp))) .nil
  exact(W32.cons (by decide) (.map fun n hn'=>Dl hn (h s hs n hn'))).app (.cons (by decide) .nil)
 have:=h4 s hs;unfold setW;split
 ·simp
 simp only[anL,aT,la,anB,ln];omega
section
variable {f:Fnt} (h:al1 f) (hs:SmF f)
include h in
theorem uD:∀g∈f.akJ,nameB g.name=true:=fun g hg=>(h.akJ g hg).name
include h hs in
theorem abH:Lk (f.akP.map AQ) 332:= .mono (.map (k:=166) (n:=2) (fun a ha=>by
 have:=h.akP a ha;exact Lk.line (n:=5) (.cons (by decide) (.cons (nt (wZ this.1) (by decide)) (.cons (n32 this.2.1) (.cons (n32 this.2.2.1) (.cons (n32 this.2.2.2) .nil))))) (by simp[AQ])) hs.akP) (by decide)
include h hs in
theorem abD:Lk (f.regions.map Bl) 696:= .mono (.map (k:=232) (n:=3) (fun r hr=>by
 have:=h.regs r hr;refine Lk.line (n:=7) (.cons (by decide) (.flat fun t ht=> .cons (n32 (this t ht).1) (.cons (n32 (this t ht).2.1) (.cons (n32 (this t ht).2.2) .nil)))) ?_;have:=oO r.ak1 kz 3 2 (fun t _=>by simp[kz]) (hs.regs.2 r hr);unfold Bl;rw[aT];omega) hs.regs.1) (by decide)
include h hs in
theorem ZN:Lk (f.funcs.map Pj) 4028:= .mono (.map (k:=2014) (n:=2) (fun p hp=>QM (h.funcs p hp) (hs.funcs.2 p hp) (by decide)) hs.funcs.1) (by decide)
include h hs in
theorem XA (all:Bool):Lk (f.akJ.flatMap (wY f.akJ all)) 106100:= .mono (.flat (k:=10610) (n:=10) (fun g hg=>aab (uD h) all (h.akJ g hg) (hs.akJ.2 g hg)) hs.akJ.1) (by decide)
include h hs in
theorem aaL:Lk (f.chars.map (AB f.akJ)) 1600:= .mono (.map (k:=100) (n:=16) (fun c hc=>Lk.line (n:=3) (.cons (by decide) (.cons (n32 (h.chars c hc).1) (.cons (Dl (uD h) (h.chars c hc).2) .nil))) (by simp[AB])) hs.chars) (by decide)
include h hs in
theorem Zo:Lk (f.features.map EJ) 2120:= .mono (.map (k:=265) (n:=8) (fun x hx=>Lk.line (n:=8) (.cons (by decide) (.cons (nt (wZ (h.ak0 x hx).1) (by decide)) (.it (h.ak0 x hx).2))) (by
 have:=hs.ak0.2 x hx;simp only[EJ,aT,anB];omega)) hs.ak0.1) (by decide)
include h in
theorem ack:Lk [[lI,ah f.unit]] 67:=Lk.line (n:=2) (.cons (by decide) (.cons (n32 h.unit) .nil)) (by simp)
include h hs in
include h hs in
theorem L8:(lJ f).length<=160000:=by
 have key:Lk (yc f) 160000:=by
  unfold yc;have hl:Lk (f.akK.flatMap (EN f.akJ (di f.akJ))) 37446:= .mono (.flat (k:=6241) (n:=6) (fun l hl=>VG (uD h) (acz (uD h)) (h.akK l hl).2.2 (hs.akK.2 l hl)) hs.akK.1) (by decide);have hc:Lk (if f.cvt.isEmpty then [] else [mr::f.cvt.map ah]) 133:=by
   split
   ·exact .nil _
   exact Lk.line (n:=4) (.cons (by decide) (.it h.cvt)) (by have:=hs.cvt;simp only[aT,anB];omega)
  exact .mono ((ack h).app ((abH h hs).app ((abD h hs).app (hc.app ((ZN h hs).app ((XA h hs false).app ((aaL h hs).app (hl.app (Zo h hs))))))))) (by decide)
 rw[<-Gy];exact key
end
end
end Go.Proofs.YtkijckccfookeaaGreatDoor
