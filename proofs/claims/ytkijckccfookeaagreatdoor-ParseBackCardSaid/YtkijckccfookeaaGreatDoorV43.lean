/- Lemmas. -/
import Derived.Test.YtkijckccfookeaaGreatDoorV41
set_option linter.unusedVariables false
set_option linter.unusedSimpArgs false
set_option maxRecDepth 100000
set_option maxHeartbeats 32000000
namespace Go.Proofs.YtkijckccfookeaaGreatDoor
open Go.RowKit
section
structure MS {α:Type}(R:Rel α)(w0:World)(m:Nat)(fs:Nat->Value)(lp:Int)(j:Nat)(e:TypeId)(ts:List TypeId)(sz:Nat)(A:Option Addr)(c:Nat)(cells:List Value)(xs:List α)(P:World->Prop)(hi top:Nat)(wr:World):Prop where
 mkr:Mk wr m (dQ fs j (.slice A xs.length c)) lp
 row:wr.ownsRow hi e sz (.slice A xs.length c) xs.length cells
 fl:Fl R sz wr (TR ts hi top wr) cells xs
 fz:Fzn (m+1) hi P wr
 low:Below w0.heap.size w0 wr
 bnd:w0.heap.size<=m/\m<hi/\hi<=top/\top<=wr.heap.size
section
variable {α:Type} {R:Rel α} {w0:World} {m:Nat} {fs:Nat->Value} {lp:Int} {j:Nat} {e:TypeId} {ts:List TypeId} {sz:Nat} {A:Option Addr} {c:Nat} {cells:List Value} {xs:List α} {P:World->Prop} {hi top:Nat} {wr w2:World}
theorem MS.start (h:Mk wr m fs lp)(hj:fs j= .slice none 0 0)(fz:Fzn (m+1) hi P wr)(low:Below w0.heap.size w0 wr)(hm:w0.heap.size<=m/\m<hi):MS R w0 m fs lp j e ts sz none 0 [] [] P wr.heap.size wr.heap.size wr:=by
 have hu:dQ fs j (.slice none 0 0)=fs:=by
  funext i
  unfold dQ;split
  ·rename_i e;rw[e,hj]
  rfl
 exact⟨by rw[show([]:List α).length=0 from rfl,hu];exact h,World.ownsRow_nil _ _ _ _,Fl.nil,fz.wide (ag _) fz.top (ag _),low,hm.1,aqu hm.2 fz.top,ag _,ag _⟩
theorem wY (low:Below w0.heap.size w0 wr)(hm:w0.heap.size<=m)(hv:Mv m wr w2):Below w0.heap.size w0 w2:=low.trans (WJ hv hm low.size)
theorem MS.next (ok:R.Ok)(h:MS R w0 m fs lp j e ts sz A c cells xs P hi top wr)(he:e≠mY){lp2:Int}(hm:Mk w2 m (dQ fs j (.slice A xs.length c)) lp2)(hv:Mv m wr w2):MS R w0 m fs lp2 j e ts sz A c cells xs P hi top w2:=by obtain⟨b1,b2,b3,b4⟩:=h.bnd;have hz:=hv.size;exact⟨hm,(Sp.next h.mkr hv).own h.row he,h.fl.moved ok (TR.step hv (fun x hx=>by injection hx with hx;exact .inl (by omega))),h.fz.next (by omega) hv,wY h.low b1 hv,b1,b2,b3,by omega⟩
theorem MS.below (ok:R.Ok)(h:MS R w0 m fs lp j e ts sz A c cells xs P hi top wr)(hb:Below wr.heap.size wr w2):MS R w0 m fs lp j e ts sz A c cells xs P hi top w2:=by obtain⟨b1,b2,b3,b4⟩:=h.bnd;have hz:=hb.size;exact⟨h.mkr.below hb,own_below h.row hb,h.fl.moved ok (TR.step (aH hb none) (fun x hx=>by cases hx)),h.fz.below hb,h.low.trans (hb.mono h.low.size),b1,b2,b3,by omega⟩
theorem MS.drew (ok:R.Ok)(h:MS R w0 m fs lp j e ts sz A c cells xs P hi top wr):MS R w0 m fs lp j e ts sz A c cells xs P hi top wr.drew:=h.below ok (aqk _ _).drew
theorem MS.cell (h:MS R w0 m fs lp j e ts sz A c cells xs P hi top wr)(hj:j<9):wr.cell? ⟨m,j+2,none⟩=some (.slice A xs.length c):=h.mkr.at' j hj (eG _ _ _)
theorem MS.other (ok:R.Ok)(h:MS R w0 m fs lp j e ts sz A c cells xs P hi top wr){g:Nat}(hg:wr.grownBy w2 (some g))(htop:top<=g){t:TypeId}{cs:Array Value}(hb:Bk wr g t cs)(hte:e≠t)(htm:mY≠t):MS R w0 m fs lp j e ts sz A c cells xs P hi top w2:=by
 obtain⟨b1,b2,b3,b4⟩:=h.bnd;have s:Sp m t wr w2:=⟨some g,hg,fun x hx=>by injection hx with hx;subst hx;exact⟨by omega,_,hb⟩⟩
 have hz:=hg.size;exact⟨s.mk h.mkr htm,s.own h.row hte,h.fl.moved ok (TR.step hg (fun x hx=>by injection hx with hx;exact .inr (by omega))),h.fz.row hg (fun x hx=>by injection hx with hx;exact .inr (by omega)),⟨hg.os.trans h.low.os,hg.tape.trans h.low.tape,hg.output.trans h.low.output,nt h.low.size hz,fun i hi'=>(hg.block i (by have:=h.low.size;omega) (fun e=>by injection e with e;omega)).trans (h.low.block i hi')⟩,b1,b2,b3,by omega⟩
theorem MS.push (ok:R.Ok)(h:MS R w0 m fs lp j e ts sz A c cells xs P hi top wr){base n s:Nat}{t:TypeId}{v:Value}{ys:List Value}(ho:wr.ownsRow base t s v n ys)(hb:top<=base)(hg:wr.grownBy w2 v.ownBlock)(hte:e≠t)(htm:mY≠t):MS R w0 m fs lp j e ts sz A c cells xs P hi top w2:=by
 obtain⟨b1,b2,b3,b4⟩:=h.bnd;have sp:Sp m t wr w2:=Sp.push ho (by omega) hg;have hz:=hg.size;have hlt:∀x,v.ownBlock=some x->top<=x:=fun x hx=>nt hb (ho.lt x hx).1
 exact⟨sp.mk h.mkr htm,sp.own h.row hte,h.fl.moved ok (TR.step hg (fun x hx=> .inr (hlt x hx))),h.fz.push ho (by omega) hg,⟨hg.os.trans h.low.os,hg.tape.trans h.low.tape,hg.output.trans h.low.output,nt h.low.size hz,fun i hi'=>(hg.block i (by have:=h.low.size;omega) (fun e=>by have:=hlt i e.symm;omega)).trans (h.low.block i hi')⟩,b1,b2,b3,by omega⟩
theorem MS.ao1 (ok:R.Ok)(h:MS R w0 m fs lp j e ts sz A c cells xs P hi top wr){ui:Nat}(h1:top<=ui)(h2:ui<=wr.heap.size):MS R w0 m fs lp j e ts sz A c cells xs P hi ui wr:=by obtain⟨b1,b2,b3,b4⟩:=h.bnd;exact⟨h.mkr,h.row,h.fl.mono ok (TR.sub (fun _ h=>h) (ag _) h1),h.fz,h.low,b1,b2,by omega,h2⟩
theorem MS.apK (ok:R.Ok)(h:MS R w0 m fs lp j e ts sz A c cells xs P hi top wr)(hj:j<9){t:TypeId}(E:ElT e t sz)(he:mY≠e)(hts:e ∉ ts){n:Nat}(hn:xs.length=n)(hl:n<=1000)(x:α)(news:Array Value)(hnl:news.size=sz)(hone:∀u∈news.toList,u.oneCell'=true)(hR:R wr (TR ts hi wr.heap.size wr) news.toList x):
  ∃B d w9,(Builtin.append_ #[t,t] t #[.slice A n c,.slice (some ⟨wr.heap.size,0,none⟩) 1 1]).run Tryz.prog (wr.alloc (.cells news e))= .ok (.slice B (n+1) d) w9/\
   w9.cell? ⟨m,j+2,none⟩=some (.slice A n c)/\w9.frozen? ⟨m,j+2,none⟩=false/\m<w9.heap.size/\Sp m e wr w9/\MS R w0 m fs lp j e ts sz B d (cells++news.toList) (xs++[x]) P hi wr.heap.size (w9.setCell ⟨m,j+2,none⟩ (.slice B (n+1) d)):=by
 subst hn;obtain⟨b1,b2,b3,b4⟩:=h.bnd;obtain⟨B,d,w9,hrun,aZ,aB,bD⟩:=iG E t wr hi _ c A _ news hnl h.row hone (by omega) (by omega);have s:Sp m e wr w9:=Sp.push h.row (by omega) aB;have Zb:=aB.size;have pG:=s.mk h.mkr he;have hlt:∀x,(Value.slice A xs.length c).ownBlock=some x->hi<=x:=fun x hx=>(h.row.lt x hx).1
 have hn2:(xs++[x]).length=xs.length+1:=by simp
 have all:=(h.fl.mono ok (TR.sub (fun _ h=>h) (ag _) b4)).append (Fl.one hR (by simpa using hnl));have abz:Fl R sz w9 (TR ts hi wr.heap.size w9) (cells++news.toList) (xs++[x]):=all.moved ok (by
  have key:∀b,TR ts hi wr.heap.size wr b->w9.heap[b]? =wr.heap[b]? :=fun b ⟨h1,cs,t,hk,htt⟩=>aB.block b hk.lt (fun e'=>by
   obtain⟨cur,hb⟩:=jK h.row b e'.symm;have:=(bY hb hk).1;subst this;exact hts htt)
  exact⟨key,fun b hb=>by
   obtain⟨h1,cs,t,hk,htt⟩:=hb;exact⟨h1,cs,t,(key b ⟨h1,cs,t,hk,htt⟩).trans hk,htt⟩⟩)
 have fz9:=h.fz.push h.row (ag _) aB;have akt:Below w0.heap.size w0 w9:=⟨aB.os.trans h.low.os,aB.tape.trans h.low.tape,aB.output.trans h.low.output,nt h.low.size Zb,fun i hi'=>(aB.block i (by have:=h.low.size;omega) (fun e=>by have:=hlt i e.symm;omega)).trans (h.low.block i hi')⟩
 have OZ:=pG.put j hj (.slice B (xs.length+1) d);rw[J7] at OZ;have aa8:=pG.mvp (j+2) (.slice B (xs.length+1) d);have s10:=pG.sp (j+2) (.slice B (xs.length+1) d);refine⟨B,d,w9,hrun,pG.at' j hj (eG _ _ _),pG.frozen _,pG.lt,s,by rw[hn2];exact OZ,?_,abz.moved ok (TR.step aa8 (fun x hx=>by injection hx with hx;exact .inl (by omega))),fz9.next (by omega) aa8,wY akt b1 aa8,b1,b2,by omega,by simpa using Zb⟩;rw[hn2];exact s10.own aZ he.symm
theorem MS.more (ok:R.Ok)(h:MS R w0 m fs lp j e ts sz A c cells xs P hi top wr)(hj:j<9){t:TypeId}(E:ElT e t sz)(he:mY≠e)(hts:e ∉ ts){n:Nat}(hn:xs.length=n)(hl:n<=1000)(x:α)(news:Array Value)(hnl:news.size=sz)(hone:∀u∈news.toList,u.oneCell'=true)(hR:R wr (TR ts hi wr.heap.size wr) news.toList x):
  ∃B d w9,(Builtin.append_ #[t,t] t #[.slice A n c,.slice (some ⟨wr.heap.size,0,none⟩) 1 1]).run Tryz.prog (wr.alloc (.cells news e))= .ok (.slice B (n+1) d) w9/\
   w9.cell? ⟨m,j+2,none⟩=some (.slice A n c)/\w9.frozen? ⟨m,j+2,none⟩=false/\m<w9.heap.size/\MS R w0 m fs lp j e ts sz B d (cells++news.toList) (xs++[x]) P hi wr.heap.size (w9.setCell ⟨m,j+2,none⟩ (.slice B (n+1) d)):=by
 obtain⟨B,d,w9,h1,h2,h3,h4,-,h5⟩:=h.apK ok hj E he hts hn hl x news hnl hone hR;exact⟨B,d,w9,h1,h2,h3,h4,h5⟩
theorem MS.done (ok:R.Ok)(h:MS R w0 m fs lp j e ts sz A c cells xs P hi top wr)(hsz:0<sz):Fzn (m+1) wr.heap.size (fun w=>P w/\Sl R sz w (TR (e::ts) (m+1) wr.heap.size w) A xs) wr:=by obtain⟨b1,b2,b3,b4⟩:=h.bnd;have sl:Sl R sz wr (TR (e::ts) (m+1) wr.heap.size wr) A xs:=zn h.row (h.fl.mono ok (TR.sub (fun t ht=>List.mem_cons_of_mem _ ht) (by omega) b4)) (by simp) (by omega) hsz;exact(h.fz.wide (ag _) (by omega) (ag _)).and (Fzn.sl ok sl (ag _))
theorem MS.box (ok:R.Ok)(h:MS R w0 m fs lp j e ts sz A c cells xs P hi top wr){g:Nat}(hg:wr.grownBy w2 (some g))(htop:top<=g){cs:Array Value}(hb:Bk wr g e cs)(hdb:∀x,(Value.slice A xs.length c).ownBlock=some x->x≠g)(htm:mY≠e):MS R w0 m fs lp j e ts sz A c cells xs P hi top w2:=by
 obtain⟨b1,b2,b3,b4⟩:=h.bnd;have s:Sp m e wr w2:=⟨some g,hg,fun x hx=>by injection hx with hx;subst hx;exact⟨by omega,_,hb⟩⟩
 have hz:=hg.size;refine⟨s.mk h.mkr htm,h.row.kept hg ?_,h.fl.moved ok (TR.step hg (fun x hx=>by injection hx with hx;exact .inr (by omega))),h.fz.row hg (fun x hx=>by injection hx with hx;exact .inr (by omega)),⟨hg.os.trans h.low.os,hg.tape.trans h.low.tape,hg.output.trans h.low.output,nt h.low.size hz,fun i hi'=>(hg.block i (by have:=h.low.size;omega) (fun e=>by injection e with e;omega)).trans (h.low.block i hi')⟩,b1,b2,b3,by omega⟩;cases hx:(Value.slice A xs.length c).ownBlock with
 |none=>exact .inl rfl
 |some x=>exact .inr (fun e=>hdb x hx (by injection e))
end
structure SG (w0:World)(m:Nat)(fs:Nat->Value)(lp:Int)(P:World->Prop)(hi:Nat)(wr:World):Prop where
 mkr:Mk wr m fs lp
 fz:Fzn (m+1) hi P wr
 low:Below w0.heap.size w0 wr
 bnd:w0.heap.size<=m/\m<hi
section
variable {α:Type} {R:Rel α} {w0:World} {m:Nat} {fs:Nat->Value} {lp:Int} {j:Nat} {e:TypeId} {ts:List TypeId} {sz:Nat} {A:Option Addr} {c:Nat} {cells:List Value} {xs:List α} {P Q:World->Prop} {hi top:Nat} {wr w2:World}
theorem MS.sg (ok:R.Ok)(h:MS R w0 m fs lp j e ts sz A c cells xs P hi top wr)(hsz:0<sz):SG w0 m (dQ fs j (.slice A xs.length c)) lp (fun w=>P w/\Sl R sz w (TR (e::ts) (m+1) wr.heap.size w) A xs) wr.heap.size wr:=⟨h.mkr,h.done ok hsz,h.low,h.bnd.1,by have:=h.bnd;omega⟩
theorem SG.ms (h:SG w0 m fs lp P hi wr)(hj:fs j= .slice none 0 0):MS R w0 m fs lp j e ts sz none 0 [] [] P wr.heap.size wr.heap.size wr:=MS.start h.mkr hj h.fz h.low h.bnd
theorem SG.next (h:SG w0 m fs lp P hi wr){lp2:Int}(hm:Mk w2 m fs lp2)(hv:Mv m wr w2):SG w0 m fs lp2 P hi w2:=⟨hm,h.fz.next (by omega) hv,wY h.low h.bnd.1 hv,h.bnd⟩
theorem SG.below (h:SG w0 m fs lp P hi wr)(hb:Below wr.heap.size wr w2):SG w0 m fs lp P hi w2:=⟨h.mkr.below hb,h.fz.below hb,h.low.trans (hb.mono h.low.size),h.bnd⟩
theorem SG.more (h:SG w0 m fs lp P hi wr){hi2:Nat}(h1:hi<=hi2)(h2:hi2<=wr.heap.size)(hq:Q wr)(hk:∀w w',Q w->YN (m+1) hi2 w w'->Q w'):SG w0 m fs lp (fun w=>P w/\Q w) hi2 wr:=⟨h.mkr,(h.fz.wide (ag _) h1 h2).and ⟨hq,hk,h2⟩,h.low,h.bnd.1,aqu h.bnd.2 h1⟩
end
end
section
theorem XN {w:World}{fc:List Value}(h:an4 w (Dt w) fc He):∃b1 o1 c1 b2 o2 c2 A3 c3 A4 c4 A5 c5 A6 c6 A7 c7 A8 c8 b9 o9 c9,fc=[.int .i64 0,.slice (some ⟨b1,o1,none⟩) 1 c1,.slice (some ⟨b2,o2,none⟩) 1 c2,.slice A3 0 c3,.slice A4 0 c4,.slice A5 0 c5,.slice A6 0 c6,.slice A7 0 c7,.slice A8 0 c8]/\
  b1<w.heap.size/\b2<w.heap.size/\b9<w.heap.size/\w.cell? ⟨b1,o1+1,none⟩=some (.int .i64 500)/\w.cell? ⟨b1,o1+3,none⟩=some (.slice (some ⟨b9,o9,none⟩) 3 c9)/\
  w.cell? ⟨b9,o9+3,none⟩=some (.int .i64 10)/\w.cell? ⟨b9,o9+4,none⟩=some (.int .i64 5)/\w.cell? ⟨b9,o9+5,none⟩=some (.bool false)/\w.cell? ⟨b2,o2,none⟩=some (.int .i64 97)/\w.cell? ⟨b2,o2+1,none⟩=some (.int .i64 0):=by
 obtain⟨A1,c1,A2,c2,A3,c3,A4,c4,A5,c5,A6,c6,A7,c7,A8,c8,e,-,h1,h2,-⟩:=h;obtain⟨b1,o1,x,A13,c13,UN,c14,A15,c15,A16,c16,A17,c17,A18,c18,rfl,hb1,hx,-,q1,-,q3,-,-,-,-,-,-,hp,-⟩:=h1.anX (k:=0) (by decide);have hx1:x=⟨[97],500,false,[⟨0,0,true⟩,⟨10,5,false⟩,⟨20,0,true⟩],[2],[],[],[],[]⟩:=by have:=hx.out;simp only[He,aqw,aqM] at this;exact this.symm
 subst hx1;obtain⟨b2,o2,y,rfl,hb2,hy,p0,p1,-⟩:=h2.chr (k:=0) (by decide);have hy1:y=⟨97,0⟩:=by have:=hy.out;simp only[He,aqw,aqM] at this;exact this.symm
 subst hy1;obtain⟨b9,o9,z,rfl,di,hz,r0,r1,r2,-⟩:=hp.pt (k:=1) (by decide);have hz1:z=⟨10,5,false⟩:=by have:=hz.out;simp only[aqz,aqw,aqM] at this;exact this.symm
 subst hz1;simp only[Nat.zero_mul,Nat.add_zero,Nat.one_mul] at q1 q3 p0 p1 r0 r1 r2;have lt:∀b,Dt w b->b<w.heap.size:=fun b ⟨cs,t,hk,_⟩=>hk.lt
 exact⟨b1,o1,c1,b2,o2,c2,A3,c3,A4,c4,A5,c5,A6,c6,A7,c7,A8,c8,b9,o9,c13,e,lt _ hb1,lt _ hb2,lt _ di,q1,q3,r0,r1,r2,p0,p1⟩
theorem EM (w:World)(fF:aoi w)(ng:nT<=w.heap.size):Calls Tryz.prog 22 #[] w fun e w'=>e= .returned (.bool true)/\Below w.heap.size w w':=by
 have hf1:=oh w Zi (by decide) fF ng;rw[YK] at hf1;go_enter Tryz.func22,Tryz.ntmps22
 go_wp2_with fail
 refine hf1.mono ?_;rintro e w1 ⟨hb1,fc,rfl,hfn⟩;obtain⟨b1,o1,c1,b2,o2,c2,A3,c3,A4,c4,A5,c5,A6,c6,A7,c7,A8,c8,b9,o9,c9,rfl,zb1,zb2,zb9,q1,q3,r0,r1,r2,p0,p1⟩:=XN hfn;clear hf1 hfn;have hz1:=hb1.size;have Cf:=hd0 fF;have HB1:=hd0 hb1;clear fF hb1;go_wp2_with fail
 obtain⟨w2,hw2⟩:∃x,(w1.alloc (.cells #[.int .i64 0,.slice (some ⟨b1,o1,none⟩) 1 c1,.slice (some ⟨b2,o2,none⟩) 1 c2,.slice A3 0 c3,.slice A4 0 c4,.slice A5 0 c5,.slice A6 0 c6,.slice A7 0 c7,.slice A8 0 c8] lH))=x:=⟨_,rfl⟩
 rw[hw2];have hb2:Below w1.heap.size w1 w2:=hw2 ▸ (aqk _ _).alloc (ag _) _;have hk2:Bk w2 w1.heap.size lH #[.int .i64 0,.slice (some ⟨b1,o1,none⟩) 1 c1,.slice (some ⟨b2,o2,none⟩) 1 c2,.slice A3 0 c3,.slice A4 0 c4,.slice A5 0 c5,.slice A6 0 c6,.slice A7 0 c7,.slice A8 0 c8]:=hw2 ▸ Bk.new _ _ _;clear hw2;have hB2:Below w.heap.size w w2:=HB1.out.trans (hb2.mono HB1.out.size);have hf2:=oh w2 XO (by decide) (Cf.out.below hB2) (nt ng hB2.size);rw[XC] at hf2;refine hf2.mono ?_;rintro e w3 ⟨hb3,rfl⟩;have lm:Below w1.heap.size w1 w3:=hb2.trans (hb3.mono hb2.size);have hk3:=hk2.keep (hb3.block _ hk2.lt);have HB3:Hid (Below w.heap.size w w3):=HB1.out.trans (lm.mono HB1.out.size);have q1':=((af lm).1 _ _ zb1).trans q1;have q3':=((af lm).1 _ _ zb1).trans q3;have r0':=((af lm).1 _ _ zb9).trans r0;have r1':=((af lm).1 _ _ zb9).trans r1;have r2':=((af lm).1 _ _ zb9).trans r2;have p0':=((af lm).1 _ _ zb2).trans p0;have p1':=((af lm).1 _ _ zb2).trans p1;have f1:=hk3.cell 1;have f2:=hk3.cell 2;simp only[List.getElem?_toArray,aqz,aqw] at f1 f2;have zf:=hk3.lt;have hz3:=lm.size;have yb1:=aqu zb1 hz3;have yb2:=aqu zb2 hz3;have yb9:=aqu zb9 hz3;have hpo:=FW (w3.alloc (.cells jm lH)) [106,117,109,112,122] ((Cf.out.below HB3.out).ops.keep (by
  have:=(Cf.out.below HB3.out).ops.lt;rw[heap_alloc_old w3 _ this]))
 rw[Y3] at hpo;have Hpo:=hd0 hpo;clear lm hb3 hb2 hB2 hk2 hk3 hf2 q1 q3 r0 r1 r2 p0 p1 hpo;go_wp2_with fail
 refine Hpo.out.mono ?_;rintro e w4 ⟨rfl,rfl⟩;go_wp2_with fail
 go_ret
 exact⟨rfl,HB3.out.trans ((aqk _ _).alloc HB3.out.size _)⟩
end
end Go.Proofs.YtkijckccfookeaaGreatDoor
