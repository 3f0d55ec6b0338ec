/- Lemmas. -/
import Derived.Test.YtkijckccfookeaaDoorX32
set_option linter.unusedVariables false
set_option linter.unusedSimpArgs false
namespace Go.Proofs.YtkijckccfookeaaDoor
open Go.RowKit
structure MS {α:Type}(R:Rel α)(w0:World)(m:Nat)(fs:Nat->Value)(lp:Int)(j:Nat)(e:TypeId)(ts:List TypeId)(sz:Nat)(A:Option Addr)(c:Nat)(cells:List Value)(xs:List α)(P:World->Prop)(hi top:Nat)(wr:World):Prop where
 mkr:Mk wr m (dw fs j (.slice A xs.length c)) lp
 row:wr.ownsRow hi e sz (.slice A xs.length c) xs.length cells
 fl:Fl R sz wr (TR ts hi top wr) cells xs
 fz:Fzn (m+1) hi P wr
 low:Below w0.heap.size w0 wr
 bnd:w0.heap.size<=m/\m<hi/\hi<=top/\top<=wr.heap.size
section
variable {α:Type} {R:Rel α} {w0:World} {m:Nat} {fs:Nat->Value} {lp:Int} {j:Nat} {e:TypeId} {ts:List TypeId} {sz:Nat} {A:Option Addr} {c:Nat} {cells:List Value} {xs:List α} {P:World->Prop} {hi top:Nat} {wr w2:World}
theorem MS.start (h:Mk wr m fs lp)(hj:fs j= .slice none 0 0)(fz:Fzn (m+1) hi P wr)(low:Below w0.heap.size w0 wr)(hm:w0.heap.size<=m/\m<hi):MS R w0 m fs lp j e ts sz none 0 [] [] P wr.heap.size wr.heap.size wr:=by
 have hu:dw fs j (.slice none 0 0)=fs:=by
  funext i
  unfold dw;split
  ·rename_i e;rw[e,hj]
  rfl
 exact⟨by rw[show([]:List α).length=0 from rfl,hu];exact h,World.ownsRow_nil _ _ _ _,Fl.nil,fz.wide (ai _) fz.top (ai _),low,hm.1,agN hm.2 fz.top,ai _,ai _⟩
theorem rQ (low:Below w0.heap.size w0 wr)(hm:w0.heap.size<=m)(hv:Mv m wr w2):Below w0.heap.size w0 w2:=low.trans (Le hv hm low.size)
theorem MS.next (ok:R.Ok)(h:MS R w0 m fs lp j e ts sz A c cells xs P hi top wr)(he:e≠kw){lp2:Int}(hm:Mk w2 m (dw fs j (.slice A xs.length c)) lp2)(hv:Mv m wr w2):MS R w0 m fs lp2 j e ts sz A c cells xs P hi top w2:=by obtain⟨b1,b2,b3,b4⟩:=h.bnd;have hz:=hv.size;exact⟨hm,(Sp.next h.mkr hv).own h.row he,h.fl.moved ok (TR.step hv (fun x hx=>by injection hx with hx;exact .inl (by omega))),h.fz.next (by omega) hv,rQ h.low b1 hv,b1,b2,b3,by omega⟩
theorem MS.below (ok:R.Ok)(h:MS R w0 m fs lp j e ts sz A c cells xs P hi top wr)(hb:Below wr.heap.size wr w2):MS R w0 m fs lp j e ts sz A c cells xs P hi top w2:=by obtain⟨b1,b2,b3,b4⟩:=h.bnd;have hz:=hb.size;exact⟨h.mkr.below hb,own_below h.row hb,h.fl.moved ok (TR.step (dm hb none) (fun x hx=>by cases hx)),h.fz.below hb,h.low.trans (hb.mono h.low.size),b1,b2,b3,by omega⟩
theorem MS.drew (ok:R.Ok)(h:MS R w0 m fs lp j e ts sz A c cells xs P hi top wr):MS R w0 m fs lp j e ts sz A c cells xs P hi top wr.drew:=h.below ok (agE _ _).drew
theorem MS.cell (h:MS R w0 m fs lp j e ts sz A c cells xs P hi top wr)(hj:j<9):wr.cell? ⟨m,j+2,none⟩=some (.slice A xs.length c):=h.mkr.at' j hj (dH _ _ _)
theorem MS.other (ok:R.Ok)(h:MS R w0 m fs lp j e ts sz A c cells xs P hi top wr){g:Nat}(hg:wr.grownBy w2 (some g))(htop:top<=g){t:TypeId}{cs:Array Value}(hb:Bk wr g t cs)(hte:e≠t)(htm:kw≠t):MS R w0 m fs lp j e ts sz A c cells xs P hi top w2:=by
 obtain⟨b1,b2,b3,b4⟩:=h.bnd;have s:Sp m t wr w2:=⟨some g,hg,fun x hx=>by injection hx with hx;subst hx;exact⟨by omega,_,hb⟩⟩
 have hz:=hg.size;exact⟨s.mk h.mkr htm,s.own h.row hte,h.fl.moved ok (TR.step hg (fun x hx=>by injection hx with hx;exact .inr (by omega))),h.fz.row hg (fun x hx=>by injection hx with hx;exact .inr (by omega)),⟨hg.os.trans h.low.os,hg.tape.trans h.low.tape,hg.output.trans h.low.output,nt h.low.size hz,fun i hi'=>(hg.block i (by have:=h.low.size;omega) (fun e=>by injection e with e;omega)).trans (h.low.block i hi')⟩,b1,b2,b3,by omega⟩
theorem MS.push (ok:R.Ok)(h:MS R w0 m fs lp j e ts sz A c cells xs P hi top wr){base n s:Nat}{t:TypeId}{v:Value}{ys:List Value}(ho:wr.ownsRow base t s v n ys)(hb:top<=base)(hg:wr.grownBy w2 v.ownBlock)(hte:e≠t)(htm:kw≠t):MS R w0 m fs lp j e ts sz A c cells xs P hi top w2:=by
 obtain⟨b1,b2,b3,b4⟩:=h.bnd;have sp:Sp m t wr w2:=Sp.push ho (by omega) hg;have hz:=hg.size;have hlt:∀x,v.ownBlock=some x->top<=x:=fun x hx=>nt hb (ho.lt x hx).1
 exact⟨sp.mk h.mkr htm,sp.own h.row hte,h.fl.moved ok (TR.step hg (fun x hx=> .inr (hlt x hx))),h.fz.push ho (by omega) hg,⟨hg.os.trans h.low.os,hg.tape.trans h.low.tape,hg.output.trans h.low.output,nt h.low.size hz,fun i hi'=>(hg.block i (by have:=h.low.size;omega) (fun e=>by have:=hlt i e.symm;omega)).trans (h.low.block i hi')⟩,b1,b2,b3,by omega⟩
theorem MS.afK (ok:R.Ok)(h:MS R w0 m fs lp j e ts sz A c cells xs P hi top wr){oM:Nat}(h1:top<=oM)(h2:oM<=wr.heap.size):MS R w0 m fs lp j e ts sz A c cells xs P hi oM wr:=by obtain⟨b1,b2,b3,b4⟩:=h.bnd;exact⟨h.mkr,h.row,h.fl.mono ok (TR.sub (fun _ h=>h) (ai _) h1),h.fz,h.low,b1,b2,by omega,h2⟩
theorem MS.agm (ok:R.Ok)(h:MS R w0 m fs lp j e ts sz A c cells xs P hi top wr)(hj:j<9){t:TypeId}(E:ElT e t sz)(he:kw≠e)(hts:e ∉ ts){n:Nat}(hn:xs.length=n)(hl:n<=1000)(x:α)(news:Array Value)(hnl:news.size=sz)(hone:∀u∈news.toList,u.oneCell'=true)(hR:R wr (TR ts hi wr.heap.size wr) news.toList x):
  ∃B d w9,(Builtin.append_ #[t,t] t #[.slice A n c,.slice (some ⟨wr.heap.size,0,none⟩) 1 1]).run Tryd.prog (wr.alloc (.cells news e))= .ok (.slice B (n+1) d) w9/\
   w9.cell? ⟨m,j+2,none⟩=some (.slice A n c)/\w9.frozen? ⟨m,j+2,none⟩=false/\m<w9.heap.size/\Sp m e wr w9/\MS R w0 m fs lp j e ts sz B d (cells++news.toList) (xs++[x]) P hi wr.heap.size (w9.setCell ⟨m,j+2,none⟩ (.slice B (n+1) d)):=by
 subst hn;obtain⟨b1,b2,b3,b4⟩:=h.bnd;obtain⟨B,d,w9,hrun,dG,dA,rE⟩:=bQ E t wr hi _ c A _ news hnl h.row hone (by omega) (by omega);have s:Sp m e wr w9:=Sp.push h.row (by omega) dA;have PX:=dA.size;have mf:=s.mk h.mkr he;have hlt:∀x,(Value.slice A xs.length c).ownBlock=some x->hi<=x:=fun x hx=>(h.row.lt x hx).1
 have hn2:(xs++[x]).length=xs.length+1:=by simp
 have all:=(h.fl.mono ok (TR.sub (fun _ h=>h) (ai _) b4)).append (Fl.one hR (by simpa using hnl));have Qm:Fl R sz w9 (TR ts hi wr.heap.size w9) (cells++news.toList) (xs++[x]):=all.moved ok (by
  have key:∀b,TR ts hi wr.heap.size wr b->w9.heap[b]? =wr.heap[b]? :=fun b ⟨h1,cs,t,hk,htt⟩=>dA.block b hk.lt (fun e'=>by
   obtain⟨cur,hb⟩:=gW h.row b e'.symm;have:=(jM hb hk).1;subst this;exact hts htt)
  exact⟨key,fun b hb=>by
   obtain⟨h1,cs,t,hk,htt⟩:=hb;exact⟨h1,cs,t,(key b ⟨h1,cs,t,hk,htt⟩).trans hk,htt⟩⟩)
 have fz9:=h.fz.push h.row (ai _) dA;have abv:Below w0.heap.size w0 w9:=⟨dA.os.trans h.low.os,dA.tape.trans h.low.tape,dA.output.trans h.low.output,nt h.low.size PX,fun i hi'=>(dA.block i (by have:=h.low.size;omega) (fun e=>by have:=hlt i e.symm;omega)).trans (h.low.block i hi')⟩
 have IW:=mf.put j hj (.slice B (xs.length+1) d);rw[Dl] at IW;have Qx:=mf.mvp (j+2) (.slice B (xs.length+1) d);have s10:=mf.sp (j+2) (.slice B (xs.length+1) d);refine⟨B,d,w9,hrun,mf.at' j hj (dH _ _ _),mf.frozen _,mf.lt,s,by rw[hn2];exact IW,?_,Qm.moved ok (TR.step Qx (fun x hx=>by injection hx with hx;exact .inl (by omega))),fz9.next (by omega) Qx,rQ abv b1 Qx,b1,b2,by omega,by simpa using PX⟩;rw[hn2];exact s10.own dG he.symm
theorem MS.more (ok:R.Ok)(h:MS R w0 m fs lp j e ts sz A c cells xs P hi top wr)(hj:j<9){t:TypeId}(E:ElT e t sz)(he:kw≠e)(hts:e ∉ ts){n:Nat}(hn:xs.length=n)(hl:n<=1000)(x:α)(news:Array Value)(hnl:news.size=sz)(hone:∀u∈news.toList,u.oneCell'=true)(hR:R wr (TR ts hi wr.heap.size wr) news.toList x):
  ∃B d w9,(Builtin.append_ #[t,t] t #[.slice A n c,.slice (some ⟨wr.heap.size,0,none⟩) 1 1]).run Tryd.prog (wr.alloc (.cells news e))= .ok (.slice B (n+1) d) w9/\
   w9.cell? ⟨m,j+2,none⟩=some (.slice A n c)/\w9.frozen? ⟨m,j+2,none⟩=false/\m<w9.heap.size/\MS R w0 m fs lp j e ts sz B d (cells++news.toList) (xs++[x]) P hi wr.heap.size (w9.setCell ⟨m,j+2,none⟩ (.slice B (n+1) d)):=by
 obtain⟨B,d,w9,h1,h2,h3,h4,-,h5⟩:=h.agm ok hj E he hts hn hl x news hnl hone hR;exact⟨B,d,w9,h1,h2,h3,h4,h5⟩
theorem MS.done (ok:R.Ok)(h:MS R w0 m fs lp j e ts sz A c cells xs P hi top wr)(hsz:0<sz):Fzn (m+1) wr.heap.size (fun w=>P w/\Sl R sz w (TR (e::ts) (m+1) wr.heap.size w) A xs) wr:=by obtain⟨b1,b2,b3,b4⟩:=h.bnd;have sl:Sl R sz wr (TR (e::ts) (m+1) wr.heap.size wr) A xs:=uD h.row (h.fl.mono ok (TR.sub (fun t ht=>List.mem_cons_of_mem _ ht) (by omega) b4)) (by simp) (by omega) hsz;exact(h.fz.wide (ai _) (by omega) (ai _)).and (Fzn.sl ok sl (ai _))
theorem MS.box (ok:R.Ok)(h:MS R w0 m fs lp j e ts sz A c cells xs P hi top wr){g:Nat}(hg:wr.grownBy w2 (some g))(htop:top<=g){cs:Array Value}(hb:Bk wr g e cs)(UB:∀x,(Value.slice A xs.length c).ownBlock=some x->x≠g)(htm:kw≠e):MS R w0 m fs lp j e ts sz A c cells xs P hi top w2:=by
 obtain⟨b1,b2,b3,b4⟩:=h.bnd;have s:Sp m e wr w2:=⟨some g,hg,fun x hx=>by injection hx with hx;subst hx;exact⟨by omega,_,hb⟩⟩
 have hz:=hg.size;refine⟨s.mk h.mkr htm,h.row.kept hg ?_,h.fl.moved ok (TR.step hg (fun x hx=>by injection hx with hx;exact .inr (by omega))),h.fz.row hg (fun x hx=>by injection hx with hx;exact .inr (by omega)),⟨hg.os.trans h.low.os,hg.tape.trans h.low.tape,hg.output.trans h.low.output,nt h.low.size hz,fun i hi'=>(hg.block i (by have:=h.low.size;omega) (fun e=>by injection e with e;omega)).trans (h.low.block i hi')⟩,b1,b2,b3,by omega⟩;cases hx:(Value.slice A xs.length c).ownBlock with
 |none=>exact .inl rfl
 |some x=>exact .inr (fun e=>UB x hx (by injection e))
end
structure SG (w0:World)(m:Nat)(fs:Nat->Value)(lp:Int)(P:World->Prop)(hi:Nat)(wr:World):Prop where
 mkr:Mk wr m fs lp
 fz:Fzn (m+1) hi P wr
 low:Below w0.heap.size w0 wr
 bnd:w0.heap.size<=m/\m<hi
section
variable {α:Type} {R:Rel α} {w0:World} {m:Nat} {fs:Nat->Value} {lp:Int} {j:Nat} {e:TypeId} {ts:List TypeId} {sz:Nat} {A:Option Addr} {c:Nat} {cells:List Value} {xs:List α} {P Q:World->Prop} {hi top:Nat} {wr w2:World}
theorem MS.sg (ok:R.Ok)(h:MS R w0 m fs lp j e ts sz A c cells xs P hi top wr)(hsz:0<sz):SG w0 m (dw fs j (.slice A xs.length c)) lp (fun w=>P w/\Sl R sz w (TR (e::ts) (m+1) wr.heap.size w) A xs) wr.heap.size wr:=⟨h.mkr,h.done ok hsz,h.low,h.bnd.1,by have:=h.bnd;omega⟩
theorem SG.ms (h:SG w0 m fs lp P hi wr)(hj:fs j= .slice none 0 0):MS R w0 m fs lp j e ts sz none 0 [] [] P wr.heap.size wr.heap.size wr:=MS.start h.mkr hj h.fz h.low h.bnd
theorem SG.next (h:SG w0 m fs lp P hi wr){lp2:Int}(hm:Mk w2 m fs lp2)(hv:Mv m wr w2):SG w0 m fs lp2 P hi w2:=⟨hm,h.fz.next (by omega) hv,rQ h.low h.bnd.1 hv,h.bnd⟩
theorem SG.below (h:SG w0 m fs lp P hi wr)(hb:Below wr.heap.size wr w2):SG w0 m fs lp P hi w2:=⟨h.mkr.below hb,h.fz.below hb,h.low.trans (hb.mono h.low.size),h.bnd⟩
theorem SG.more (h:SG w0 m fs lp P hi wr){hi2:Nat}(h1:hi<=hi2)(h2:hi2<=wr.heap.size)(hq:Q wr)(hk:∀w w',Q w->Oj (m+1) hi2 w w'->Q w'):SG w0 m fs lp (fun w=>P w/\Q w) hi2 wr:=⟨h.mkr,(h.fz.wide (ai _) h1 h2).and ⟨hq,hk,h2⟩,h.low,h.bnd.1,agN h.bnd.2 h1⟩
end
end Go.Proofs.YtkijckccfookeaaDoor
