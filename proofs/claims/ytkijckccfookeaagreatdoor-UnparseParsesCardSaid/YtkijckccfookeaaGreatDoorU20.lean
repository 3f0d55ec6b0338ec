/- Lemmas. -/
import Derived.Test.YtkijckccfookeaaGreatDoorU19
import Derived.Test.YtkijckccfookeaaGreatDoorU12
set_option linter.unusedVariables false
set_option linter.unusedSimpArgs false
set_option maxRecDepth 100000
set_option maxHeartbeats 32000000
namespace Go.Proofs.YtkijckccfookeaaGreatDoor
section
open Go.RowKit
theorem FD.tr' {w w':World}{rv GK rv':Rows}{f:Fnt}(h:FD w (Fz w GK) rv f)(t:Tr w GK w' rv'):FD w' (Fz w' rv') rv f:=⟨h.unit,h.gly.tr t,h.chr.tr alm.ok t,h.lks.tr t,h.fts.tr akR.ok t,h.axs.tr ale.ok t,h.rgs.tr akU.ok t,h.fns.tr ak6.ok t,h.cvt.tr akL.ok t⟩
section
variable {w w2:World} {Bd p gm cm:Nat} {gl:Gl} {s:PS} {rv:Rows} {K:Nat}
theorem PSt.alC (h:PSt w Bd p gm cm gl s rv K){init:List akN}{g:akN}(hs:s.f.akJ=init++[g]):
  ∃G c0 ci,(rv 0).v= .slice (some ⟨G,0,none⟩) (init.length+1) c0/\(rv 0).xs=ci++[.string ⟨g.name.toArray⟩,.int .i64 g.advance,.bool g.mark,(rv 8).v,(rv 9).v,(rv 10).v,(rv 11).v,(rv 12).v,(rv 13).v]/\ci.length=init.length*9/\G<w.heap.size/\
   (∀j,j<9->w.cell? ⟨G,init.length*9+j,none⟩=[Value.string ⟨g.name.toArray⟩,.int .i64 g.advance,.bool g.mark,(rv 8).v,(rv 9).v,(rv 10).v,(rv 11).v,(rv 12).v,(rv 13).v][j]?)/\(∀j,w.frozen? ⟨G,j,none⟩=false)/\(∃cur,Bk w G 59 cur):=by
 have hn:=h.fnt.gly.1;have ho:=h.live.own 0 (by decide);rcases h.fnt.gly.2 with⟨e,_⟩|⟨init',g',ci,e1,e2,e3,e4,-⟩
 ·rw[hs] at e;simp at e
 rw[hs] at e1;obtain⟨rfl,e1⟩:=List.append_inj' e1 rfl;obtain rfl:g=g':=by simpa using e1
 have hl:=e4.1;have hn2:(rv 0).n=init.length+1:=by rw[hn,hs];simp
 rcases ho.2 with⟨_,h2⟩|⟨G,cap,cur,h1,hb,hh,hnc,hm,hsz,htk⟩
 ·omega
 rw[hn2] at h1;refine⟨G,cap,ci,h1,e2,hl,(anx.1 hh).1,fun j hj=> ?_,fun j=>Bk.frozen hh j,⟨cur,hh⟩⟩;rw[Bk.cell hh];have hlt:init.length*9+j<(rv 0).n*kS 0:=by rw[hn2];show _<(init.length+1)*9;omega
 have:(cur.toList.take ((rv 0).n*kS 0))[init.length*9+j]? =cur.toList[init.length*9+j]? :=by rw[anY,if_pos hlt]
 rw[<-Array.getElem?_toList,<-this,htk,e2,anR (by rw[hl];omega),hl,Nat.add_sub_cancel_left]
theorem qC (ci:List Value)(k off:Nat)(l:List Value)(v:Value)(hk:ci.length=k):(ci++l).set (k+off) v=ci++l.set off v:=by subst hk;rw[List.set_append_right _ _ (by omega),Nat.add_sub_cancel_left]
theorem PSt.amK (h:PSt w Bd p gm cm gl s rv K){init:List akN}{g:akN}(hs:s.f.akJ=init++[g]){G n0 c0:Nat}(h0:(rv 0).v= .slice (some ⟨G,0,none⟩) n0 c0){v':Value}{m:Nat}{cs:List Value}{ys:List Pt}(hg:w.grownBy w2 (rv 8).v.ownBlock)(ho:w2.ownsRow Bd (kT 8) (kS 8) v' ((rv 8).n+m) ((rv 8).xs++cs))(hl:Loc w (rv 8).v v')
  (hm:m=ys.length) (hf:Fl PtR 3 w (Fz w rv) cs ys) {K':Nat} (hK:K+m<=K'):
  ∃rv',PSt (w2.setCell ⟨G,init.length*9+3,none⟩ v') Bd p gm cm gl {s with f:= {s.f with akJ:=init++[{g with points:=g.points++ys}]}} rv' K'/\KQ cm w (w2.setCell ⟨G,init.length*9+3,none⟩ v')/\Below Bd w (w2.setCell ⟨G,init.length*9+3,none⟩ v')/\(rv' 0).v=(rv 0).v:=by
 have ht:Tr w rv w2 (upd rv 8 ⟨v',(rv 8).n+m,(rv 8).xs++cs⟩):=Tr.row (by decide) hg hl;obtain⟨a1,a2,-,a4,a5⟩:=h.row (i:=8) (by decide) (r:=⟨v',(rv 8).n+m,(rv 8).xs++cs⟩) hg ho hl;have k0:(upd rv 8 ⟨v',(rv 8).n+m,(rv 8).xs++cs⟩) 0=rv 0:=rfl;have ho0:=a2.own 0 (by decide);rw[k0,h0] at ho0;have hn0:n0=(rv 0).n:=by obtain⟨A9,c9,e⟩:=gY (h.live.own 0 (by decide));rw[h0] at e;simp only[aon] at e;exact e.2.1
 have hos:=uy (hn0 ▸ ho0) (init.length*9+3) v';rw[hn0] at h0;have hown0:(Value.slice (some ⟨G,0,none⟩) (rv 0).n c0).ownBlock=some G:=rfl;have hg2:w2.grownBy (w2.setCell ⟨G,init.length*9+3,none⟩ v') ((upd rv 8 ⟨v',(rv 8).n+m,(rv 8).xs++cs⟩) 0).v.ownBlock:=by rw[k0,h0,hown0];exact dE w2 ⟨G,_,none⟩ v'
 rw[<-h0] at hos;have hl2:Loc w2 ((upd rv 8 ⟨v',(rv 8).n+m,(rv 8).xs++cs⟩) 0).v (rv 0).v:= .inl rfl;have b2:=a2.row (i:=0) (by decide) (r:=⟨(rv 0).v,(rv 0).n,(rv 0).xs.set (init.length*9+3) v'⟩) hg2 hos hl2;have ht2:Tr w2 (upd rv 8 ⟨v',(rv 8).n+m,(rv 8).xs++cs⟩) (w2.setCell ⟨G,init.length*9+3,none⟩ v') (upd (upd rv 8 ⟨v',(rv 8).n+m,(rv 8).xs++cs⟩) 0 ⟨(rv 0).v,(rv 0).n,(rv 0).xs.set (init.length*9+3) v'⟩):=Tr.row (by decide) hg2 hl2;have f2:=(h.fnt.tr ht).tr' ht2;have yQ:G≠p:=fun e=>by
  obtain⟨cur,hb⟩:=bg (h.live.own 0 (by decide)) (g:=G) (by rw[h0];rfl);subst e;have:=(bU hb h.par).1
  revert this
  decide
 have qM:∀b es c,w2.heap[b]? =some (Obj.map es c)->b≠G:=fun b es c hb e=>by
  subst e;obtain⟨cur,hk⟩:=bg ho0 (g:=b) rfl;unfold Bk at hk;rw[hb] at hk;cases hk
 obtain⟨e1,c1,m1⟩:=a4.isMap;obtain⟨ff,q1,q2⟩:=a5;obtain⟨e2,c2,m2⟩:=q1.isMap;refine⟨upd (upd rv 8 ⟨v',(rv 8).n+m,(rv 8).xs++cs⟩) 0 ⟨(rv 0).v,(rv 0).n,(rv 0).xs.set (init.length*9+3) v'⟩,?_,?_,?_,rfl⟩
 ·refine {par:= ?_,live:=b2,fnt:=⟨f2.unit,?_,f2.chr,f2.lks,f2.fts,f2.axs,f2.rgs,f2.fns,f2.cvt⟩,gmp:=a4.keep (Below.heap_setCell _ _ _ _ (qM _ _ _ m1)),glI:=h.glI,cls:=alJ.tr ⟨ff,q1,q2⟩ ht2 (Below.heap_setCell _ _ _ _ (qM _ _ _ m2)),few:=gq (gq h.few (nt (anJ _ _) hK) (nt (anO (h.few 8 (by decide)) m) hK)) (af _) (nt (h.few 0 (by decide)) (nt (anJ _ _) hK)),low:=h.low}
  ·exact Bk.far a1 (fun e=>yQ e.symm) _
  obtain⟨g1,g2⟩:=h.fnt.gly;refine⟨by show(rv 0).n=_;rw[g1,hs];simp,.inr ?_⟩;rcases g2 with⟨e,_⟩|⟨init',g',ci,e1,e2,h3,h4,h5,h6,h7,h8,h9,h10⟩
  ·rw[hs] at e;simp at e
  rw[hs] at e1;obtain⟨rfl,e1⟩:=List.append_inj' e1 rfl;obtain rfl:g=g':=by simpa using e1
  refine⟨init,_,ci,rfl,?_,h3,ht2.fl akQ.ok (ht.fl akQ.ok h4),((h5.tr PtR.ok ht).app rfl hm (ht.fl PtR.ok hf)).tr PtR.ok ht2,(h6.tr akL.ok ht).tr akL.ok ht2,(h7.tr ala.ok ht).tr ala.ok ht2,(h8.tr akX.ok ht).tr akX.ok ht2,(h9.tr ak2.ok ht).tr ak2.ok ht2,(h10.tr akZ.ok ht).tr akZ.ok ht2⟩;show(rv 0).xs.set (init.length*9+3) v'=_;rw[e2,qC ci _ 3 _ _ h4.1];rfl
 ·exact(KQ.live h.live (i:=8) (by decide) hg).trans (KQ.live a2 (i:=0) (by decide) hg2)
 refine((ant Bd w).grown hg h.size (fun g e=>((h.live.own 8 (by decide)).lt g e).1)).setCell ?_ _;exact((h.live.own 0 (by decide)).lt G (by rw[h0];rfl)).1
theorem PSt.amD (h:PSt w Bd p gm cm gl s rv K){init:List akN}{g:akN}(hs:s.f.akJ=init++[g]){G n0 c0:Nat}(h0:(rv 0).v= .slice (some ⟨G,0,none⟩) n0 c0){v':Value}{m:Nat}{cs:List Value}{ys:List Int}(hg:w.grownBy w2 (rv 9).v.ownBlock)(ho:w2.ownsRow Bd (kT 9) (kS 9) v' ((rv 9).n+m) ((rv 9).xs++cs))(hl:Loc w (rv 9).v v')
  (hm:m=ys.length) (hf:Fl akL 1 w (Fz w rv) cs ys) {K':Nat} (hK:K+m<=K'):
  ∃rv',PSt (w2.setCell ⟨G,init.length*9+4,none⟩ v') Bd p gm cm gl {s with f:= {s.f with akJ:=init++[{g with ends:=g.ends++ys}]}} rv' K'/\KQ cm w (w2.setCell ⟨G,init.length*9+4,none⟩ v')/\Below Bd w (w2.setCell ⟨G,init.length*9+4,none⟩ v')/\(rv' 0).v=(rv 0).v:=by
 have ht:Tr w rv w2 (upd rv 9 ⟨v',(rv 9).n+m,(rv 9).xs++cs⟩):=Tr.row (by decide) hg hl;obtain⟨a1,a2,-,a4,a5⟩:=h.row (i:=9) (by decide) (r:=⟨v',(rv 9).n+m,(rv 9).xs++cs⟩) hg ho hl;have k0:(upd rv 9 ⟨v',(rv 9).n+m,(rv 9).xs++cs⟩) 0=rv 0:=rfl;have ho0:=a2.own 0 (by decide);rw[k0,h0] at ho0;have hn0:n0=(rv 0).n:=by obtain⟨A9,c9,e⟩:=gY (h.live.own 0 (by decide));rw[h0] at e;simp only[aon] at e;exact e.2.1
 have hos:=uy (hn0 ▸ ho0) (init.length*9+4) v';rw[hn0] at h0;have hown0:(Value.slice (some ⟨G,0,none⟩) (rv 0).n c0).ownBlock=some G:=rfl;have hg2:w2.grownBy (w2.setCell ⟨G,init.length*9+4,none⟩ v') ((upd rv 9 ⟨v',(rv 9).n+m,(rv 9).xs++cs⟩) 0).v.ownBlock:=by rw[k0,h0,hown0];exact dE w2 ⟨G,_,none⟩ v'
 rw[<-h0] at hos;have hl2:Loc w2 ((upd rv 9 ⟨v',(rv 9).n+m,(rv 9).xs++cs⟩) 0).v (rv 0).v:= .inl rfl;have b2:=a2.row (i:=0) (by decide) (r:=⟨(rv 0).v,(rv 0).n,(rv 0).xs.set (init.length*9+4) v'⟩) hg2 hos hl2;have ht2:Tr w2 (upd rv 9 ⟨v',(rv 9).n+m,(rv 9).xs++cs⟩) (w2.setCell ⟨G,init.length*9+4,none⟩ v') (upd (upd rv 9 ⟨v',(rv 9).n+m,(rv 9).xs++cs⟩) 0 ⟨(rv 0).v,(rv 0).n,(rv 0).xs.set (init.length*9+4) v'⟩):=Tr.row (by decide) hg2 hl2;have f2:=(h.fnt.tr ht).tr' ht2;have yQ:G≠p:=fun e=>by
  obtain⟨cur,hb⟩:=bg (h.live.own 0 (by decide)) (g:=G) (by rw[h0];rfl);subst e;have:=(bU hb h.par).1
  revert this
  decide
 have qM:∀b es c,w2.heap[b]? =some (Obj.map es c)->b≠G:=fun b es c hb e=>by
  subst e;obtain⟨cur,hk⟩:=bg ho0 (g:=b) rfl;unfold Bk at hk;rw[hb] at hk;cases hk
 obtain⟨e1,c1,m1⟩:=a4.isMap;obtain⟨ff,q1,q2⟩:=a5;obtain⟨e2,c2,m2⟩:=q1.isMap;refine⟨upd (upd rv 9 ⟨v',(rv 9).n+m,(rv 9).xs++cs⟩) 0 ⟨(rv 0).v,(rv 0).n,(rv 0).xs.set (init.length*9+4) v'⟩,?_,?_,?_,rfl⟩
 ·refine {par:= ?_,live:=b2,fnt:=⟨f2.unit,?_,f2.chr,f2.lks,f2.fts,f2.axs,f2.rgs,f2.fns,f2.cvt⟩,gmp:=a4.keep (Below.heap_setCell _ _ _ _ (qM _ _ _ m1)),glI:=h.glI,cls:=alJ.tr ⟨ff,q1,q2⟩ ht2 (Below.heap_setCell _ _ _ _ (qM _ _ _ m2)),few:=gq (gq h.few (nt (anJ _ _) hK) (nt (anO (h.few 9 (by decide)) m) hK)) (af _) (nt (h.few 0 (by decide)) (nt (anJ _ _) hK)),low:=h.low}
  ·exact Bk.far a1 (fun e=>yQ e.symm) _
  obtain⟨g1,g2⟩:=h.fnt.gly;refine⟨by show(rv 0).n=_;rw[g1,hs];simp,.inr ?_⟩;rcases g2 with⟨e,_⟩|⟨init',g',ci,e1,e2,h3,h4,h5,h6,h7,h8,h9,h10⟩
  ·rw[hs] at e;simp at e
  rw[hs] at e1;obtain⟨rfl,e1⟩:=List.append_inj' e1 rfl;obtain rfl:g=g':=by simpa using e1
  refine⟨init,_,ci,rfl,?_,h3,ht2.fl akQ.ok (ht.fl akQ.ok h4),(h5.tr PtR.ok ht).tr PtR.ok ht2,((h6.tr akL.ok ht).app rfl hm (ht.fl akL.ok hf)).tr akL.ok ht2,(h7.tr ala.ok ht).tr ala.ok ht2,(h8.tr akX.ok ht).tr akX.ok ht2,(h9.tr ak2.ok ht).tr ak2.ok ht2,(h10.tr akZ.ok ht).tr akZ.ok ht2⟩;show(rv 0).xs.set (init.length*9+4) v'=_;rw[e2,qC ci _ 4 _ _ h4.1];rfl
 ·exact(KQ.live h.live (i:=9) (by decide) hg).trans (KQ.live a2 (i:=0) (by decide) hg2)
 refine((ant Bd w).grown hg h.size (fun g e=>((h.live.own 9 (by decide)).lt g e).1)).setCell ?_ _;exact((h.live.own 0 (by decide)).lt G (by rw[h0];rfl)).1
theorem PSt.amE (h:PSt w Bd p gm cm gl s rv K){init:List akN}{g:akN}(hs:s.f.akJ=init++[g]){G n0 c0:Nat}(h0:(rv 0).v= .slice (some ⟨G,0,none⟩) n0 c0){v':Value}{m:Nat}{cs:List Value}{ys:List Part}(hg:w.grownBy w2 (rv 10).v.ownBlock)(ho:w2.ownsRow Bd (kT 10) (kS 10) v' ((rv 10).n+m) ((rv 10).xs++cs))(hl:Loc w (rv 10).v v')
  (hm:m=ys.length) (hf:Fl ala 3 w (Fz w rv) cs ys) {K':Nat} (hK:K+m<=K'):
  ∃rv',PSt (w2.setCell ⟨G,init.length*9+5,none⟩ v') Bd p gm cm gl {s with f:= {s.f with akJ:=init++[{g with parts:=g.parts++ys}]}} rv' K'/\KQ cm w (w2.setCell ⟨G,init.length*9+5,none⟩ v')/\Below Bd w (w2.setCell ⟨G,init.length*9+5,none⟩ v')/\(rv' 0).v=(rv 0).v:=by
 have ht:Tr w rv w2 (upd rv 10 ⟨v',(rv 10).n+m,(rv 10).xs++cs⟩):=Tr.row (by decide) hg hl;obtain⟨a1,a2,-,a4,a5⟩:=h.row (i:=10) (by decide) (r:=⟨v',(rv 10).n+m,(rv 10).xs++cs⟩) hg ho hl;have k0:(upd rv 10 ⟨v',(rv 10).n+m,(rv 10).xs++cs⟩) 0=rv 0:=rfl;have ho0:=a2.own 0 (by decide);rw[k0,h0] at ho0;have hn0:n0=(rv 0).n:=by obtain⟨A9,c9,e⟩:=gY (h.live.own 0 (by decide));rw[h0] at e;simp only[aon] at e;exact e.2.1
 have hos:=uy (hn0 ▸ ho0) (init.length*9+5) v';rw[hn0] at h0;have hown0:(Value.slice (some ⟨G,0,none⟩) (rv 0).n c0).ownBlock=some G:=rfl;have hg2:w2.grownBy (w2.setCell ⟨G,init.length*9+5,none⟩ v') ((upd rv 10 ⟨v',(rv 10).n+m,(rv 10).xs++cs⟩) 0).v.ownBlock:=by rw[k0,h0,hown0];exact dE w2 ⟨G,_,none⟩ v'
 rw[<-h0] at hos;have hl2:Loc w2 ((upd rv 10 ⟨v',(rv 10).n+m,(rv 10).xs++cs⟩) 0).v (rv 0).v:= .inl rfl;have b2:=a2.row (i:=0) (by decide) (r:=⟨(rv 0).v,(rv 0).n,(rv 0).xs.set (init.length*9+5) v'⟩) hg2 hos hl2;have ht2:Tr w2 (upd rv 10 ⟨v',(rv 10).n+m,(rv 10).xs++cs⟩) (w2.setCell ⟨G,init.length*9+5,none⟩ v') (upd (upd rv 10 ⟨v',(rv 10).n+m,(rv 10).xs++cs⟩) 0 ⟨(rv 0).v,(rv 0).n,(rv 0).xs.set (init.length*9+5) v'⟩):=Tr.row (by decide) hg2 hl2;have f2:=(h.fnt.tr ht).tr' ht2;have yQ:G≠p:=fun e=>by
  obtain⟨cur,hb⟩:=bg (h.live.own 0 (by decide)) (g:=G) (by rw[h0];rfl);subst e;have:=(bU hb h.par).1
  revert this
  decide
 have qM:∀b es c,w2.heap[b]? =some (Obj.map es c)->b≠G:=fun b es c hb e=>by
  subst e;obtain⟨cur,hk⟩:=bg ho0 (g:=b) rfl;unfold Bk at hk;rw[hb] at hk;cases hk
 obtain⟨e1,c1,m1⟩:=a4.isMap;obtain⟨ff,q1,q2⟩:=a5;obtain⟨e2,c2,m2⟩:=q1.isMap;refine⟨upd (upd rv 10 ⟨v',(rv 10).n+m,(rv 10).xs++cs⟩) 0 ⟨(rv 0).v,(rv 0).n,(rv 0).xs.set (init.length*9+5) v'⟩,?_,?_,?_,rfl⟩
 ·refine {par:= ?_,live:=b2,fnt:=⟨f2.unit,?_,f2.chr,f2.lks,f2.fts,f2.axs,f2.rgs,f2.fns,f2.cvt⟩,gmp:=a4.keep (Below.heap_setCell _ _ _ _ (qM _ _ _ m1)),glI:=h.glI,cls:=alJ.tr ⟨ff,q1,q2⟩ ht2 (Below.heap_setCell _ _ _ _ (qM _ _ _ m2)),few:=gq (gq h.few (nt (anJ _ _) hK) (nt (anO (h.few 10 (by decide)) m) hK)) (af _) (nt (h.few 0 (by decide)) (nt (anJ _ _) hK)),low:=h.low}
  ·exact Bk.far a1 (fun e=>yQ e.symm) _
  obtain⟨g1,g2⟩:=h.fnt.gly;refine⟨by show(rv 0).n=_;rw[g1,hs];simp,.inr ?_⟩;rcases g2 with⟨e,_⟩|⟨init',g',ci,e1,e2,h3,h4,h5,h6,h7,h8,h9,h10⟩
  ·rw[hs] at e;simp at e
  rw[hs] at e1;obtain⟨rfl,e1⟩:=List.append_inj' e1 rfl;obtain rfl:g=g':=by simpa using e1
  refine⟨init,_,ci,rfl,?_,h3,ht2.fl akQ.ok (ht.fl akQ.ok h4),(h5.tr PtR.ok ht).tr PtR.ok ht2,(h6.tr akL.ok ht).tr akL.ok ht2,((h7.tr ala.ok ht).app rfl hm (ht.fl ala.ok hf)).tr ala.ok ht2,(h8.tr akX.ok ht).tr akX.ok ht2,(h9.tr ak2.ok ht).tr ak2.ok ht2,(h10.tr akZ.ok ht).tr akZ.ok ht2⟩;show(rv 0).xs.set (init.length*9+5) v'=_;rw[e2,qC ci _ 5 _ _ h4.1];rfl
 ·exact(KQ.live h.live (i:=10) (by decide) hg).trans (KQ.live a2 (i:=0) (by decide) hg2)
 refine((ant Bd w).grown hg h.size (fun g e=>((h.live.own 10 (by decide)).lt g e).1)).setCell ?_ _;exact((h.live.own 0 (by decide)).lt G (by rw[h0];rfl)).1
theorem PSt.amF (h:PSt w Bd p gm cm gl s rv K){init:List akN}{g:akN}(hs:s.f.akJ=init++[g]){G n0 c0:Nat}(h0:(rv 0).v= .slice (some ⟨G,0,none⟩) n0 c0){v':Value}{m:Nat}{cs:List Value}{ys:List ak7}(hg:w.grownBy w2 (rv 11).v.ownBlock)(ho:w2.ownsRow Bd (kT 11) (kS 11) v' ((rv 11).n+m) ((rv 11).xs++cs))(hl:Loc w (rv 11).v v')
  (hm:m=ys.length) (hf:Fl akX 4 w (Fz w rv) cs ys) {K':Nat} (hK:K+m<=K'):
  ∃rv',PSt (w2.setCell ⟨G,init.length*9+6,none⟩ v') Bd p gm cm gl {s with f:= {s.f with akJ:=init++[{g with anchors:=g.anchors++ys}]}} rv' K'/\KQ cm w (w2.setCell ⟨G,init.length*9+6,none⟩ v')/\Below Bd w (w2.setCell ⟨G,init.length*9+6,none⟩ v')/\(rv' 0).v=(rv 0).v:=by
 have ht:Tr w rv w2 (upd rv 11 ⟨v',(rv 11).n+m,(rv 11).xs++cs⟩):=Tr.row (by decide) hg hl;obtain⟨a1,a2,-,a4,a5⟩:=h.row (i:=11) (by decide) (r:=⟨v',(rv 11).n+m,(rv 11).xs++cs⟩) hg ho hl;have k0:(upd rv 11 ⟨v',(rv 11).n+m,(rv 11).xs++cs⟩) 0=rv 0:=rfl;have ho0:=a2.own 0 (by decide);rw[k0,h0] at ho0;have hn0:n0=(rv 0).n:=by obtain⟨A9,c9,e⟩:=gY (h.live.own 0 (by decide));rw[h0] at e;simp only[aon] at e;exact e.2.1
 have hos:=uy (hn0 ▸ ho0) (init.length*9+6) v';rw[hn0] at h0;have hown0:(Value.slice (some ⟨G,0,none⟩) (rv 0).n c0).ownBlock=some G:=rfl;have hg2:w2.grownBy (w2.setCell ⟨G,init.length*9+6,none⟩ v') ((upd rv 11 ⟨v',(rv 11).n+m,(rv 11).xs++cs⟩) 0).v.ownBlock:=by rw[k0,h0,hown0];exact dE w2 ⟨G,_,none⟩ v'
 rw[<-h0] at hos;have hl2:Loc w2 ((upd rv 11 ⟨v',(rv 11).n+m,(rv 11).xs++cs⟩) 0).v (rv 0).v:= .inl rfl;have b2:=a2.row (i:=0) (by decide) (r:=⟨(rv 0).v,(rv 0).n,(rv 0).xs.set (init.length*9+6) v'⟩) hg2 hos hl2;have ht2:Tr w2 (upd rv 11 ⟨v',(rv 11).n+m,(rv 11).xs++cs⟩) (w2.setCell ⟨G,init.length*9+6,none⟩ v') (upd (upd rv 11 ⟨v',(rv 11).n+m,(rv 11).xs++cs⟩) 0 ⟨(rv 0).v,(rv 0).n,(rv 0).xs.set (init.length*9+6) v'⟩):=Tr.row (by decide) hg2 hl2;have f2:=(h.fnt.tr ht).tr' ht2;have yQ:G≠p:=fun e=>by
  obtain⟨cur,hb⟩:=bg (h.live.own 0 (by decide)) (g:=G) (by rw[h0];rfl);subst e;have:=(bU hb h.par).1
  revert this
  decide
 have qM:∀b es c,w2.heap[b]? =some (Obj.map es c)->b≠G:=fun b es c hb e=>by
  subst e;obtain⟨cur,hk⟩:=bg ho0 (g:=b) rfl;unfold Bk at hk;rw[hb] at hk;cases hk
 obtain⟨e1,c1,m1⟩:=a4.isMap;obtain⟨ff,q1,q2⟩:=a5;obtain⟨e2,c2,m2⟩:=q1.isMap;refine⟨upd (upd rv 11 ⟨v',(rv 11).n+m,(rv 11).xs++cs⟩) 0 ⟨(rv 0).v,(rv 0).n,(rv 0).xs.set (init.length*9+6) v'⟩,?_,?_,?_,rfl⟩
 ·refine {par:= ?_,live:=b2,fnt:=⟨f2.unit,?_,f2.chr,f2.lks,f2.fts,f2.axs,f2.rgs,f2.fns,f2.cvt⟩,gmp:=a4.keep (Below.heap_setCell _ _ _ _ (qM _ _ _ m1)),glI:=h.glI,cls:=alJ.tr ⟨ff,q1,q2⟩ ht2 (Below.heap_setCell _ _ _ _ (qM _ _ _ m2)),few:=gq (gq h.few (nt (anJ _ _) hK) (nt (anO (h.few 11 (by decide)) m) hK)) (af _) (nt (h.few 0 (by decide)) (nt (anJ _ _) hK)),low:=h.low}
  ·exact Bk.far a1 (fun e=>yQ e.symm) _
  obtain⟨g1,g2⟩:=h.fnt.gly;refine⟨by show(rv 0).n=_;rw[g1,hs];simp,.inr ?_⟩;rcases g2 with⟨e,_⟩|⟨init',g',ci,e1,e2,h3,h4,h5,h6,h7,h8,h9,h10⟩
  ·rw[hs] at e;simp at e
  rw[hs] at e1;obtain⟨rfl,e1⟩:=List.append_inj' e1 rfl;obtain rfl:g=g':=by simpa using e1
  refine⟨init,_,ci,rfl,?_,h3,ht2.fl akQ.ok (ht.fl akQ.ok h4),(h5.tr PtR.ok ht).tr PtR.ok ht2,(h6.tr akL.ok ht).tr akL.ok ht2,(h7.tr ala.ok ht).tr ala.ok ht2,((h8.tr akX.ok ht).app rfl hm (ht.fl akX.ok hf)).tr akX.ok ht2,(h9.tr ak2.ok ht).tr ak2.ok ht2,(h10.tr akZ.ok ht).tr akZ.ok ht2⟩;show(rv 0).xs.set (init.length*9+6) v'=_;rw[e2,qC ci _ 6 _ _ h4.1];rfl
 ·exact(KQ.live h.live (i:=11) (by decide) hg).trans (KQ.live a2 (i:=0) (by decide) hg2)
 refine((ant Bd w).grown hg h.size (fun g e=>((h.live.own 11 (by decide)).lt g e).1)).setCell ?_ _;exact((h.live.own 0 (by decide)).lt G (by rw[h0];rfl)).1
theorem PSt.amA (h:PSt w Bd p gm cm gl s rv K){init:List akN}{g:akN}(hs:s.f.akJ=init++[g]){G n0 c0:Nat}(h0:(rv 0).v= .slice (some ⟨G,0,none⟩) n0 c0){v':Value}{m:Nat}{cs:List Value}{ys:List Delta}(hg:w.grownBy w2 (rv 12).v.ownBlock)(ho:w2.ownsRow Bd (kT 12) (kS 12) v' ((rv 12).n+m) ((rv 12).xs++cs))(hl:Loc w (rv 12).v v')
  (hm:m=ys.length) (hf:Fl ak2 4 w (Fz w rv) cs ys) {K':Nat} (hK:K+m<=K'):
  ∃rv',PSt (w2.setCell ⟨G,init.length*9+7,none⟩ v') Bd p gm cm gl {s with f:= {s.f with akJ:=init++[{g with deltas:=g.deltas++ys}]}} rv' K'/\KQ cm w (w2.setCell ⟨G,init.length*9+7,none⟩ v')/\Below Bd w (w2.setCell ⟨G,init.length*9+7,none⟩ v')/\(rv' 0).v=(rv 0).v:=by
 have ht:Tr w rv w2 (upd rv 12 ⟨v',(rv 12).n+m,(rv 12).xs++cs⟩):=Tr.row (by decide) hg hl;obtain⟨a1,a2,-,a4,a5⟩:=h.row (i:=12) (by decide) (r:=⟨v',(rv 12).n+m,(rv 12).xs++cs⟩) hg ho hl;have k0:(upd rv 12 ⟨v',(rv 12).n+m,(rv 12).xs++cs⟩) 0=rv 0:=rfl;have ho0:=a2.own 0 (by decide);rw[k0,h0] at ho0;have hn0:n0=(rv 0).n:=by obtain⟨A9,c9,e⟩:=gY (h.live.own 0 (by decide));rw[h0] at e;simp only[aon] at e;exact e.2.1
 have hos:=uy (hn0 ▸ ho0) (init.length*9+7) v';rw[hn0] at h0;have hown0:(Value.slice (some ⟨G,0,none⟩) (rv 0).n c0).ownBlock=some G:=rfl;have hg2:w2.grownBy (w2.setCell ⟨G,init.length*9+7,none⟩ v') ((upd rv 12 ⟨v',(rv 12).n+m,(rv 12).xs++cs⟩) 0).v.ownBlock:=by rw[k0,h0,hown0];exact dE w2 ⟨G,_,none⟩ v'
 rw[<-h0] at hos;have hl2:Loc w2 ((upd rv 12 ⟨v',(rv 12).n+m,(rv 12).xs++cs⟩) 0).v (rv 0).v:= .inl rfl;have b2:=a2.row (i:=0) (by decide) (r:=⟨(rv 0).v,(rv 0).n,(rv 0).xs.set (init.length*9+7) v'⟩) hg2 hos hl2;have ht2:Tr w2 (upd rv 12 ⟨v',(rv 12).n+m,(rv 12).xs++cs⟩) (w2.setCell ⟨G,init.length*9+7,none⟩ v') (upd (upd rv 12 ⟨v',(rv 12).n+m,(rv 12).xs++cs⟩) 0 ⟨(rv 0).v,(rv 0).n,(rv 0).xs.set (init.length*9+7) v'⟩):=Tr.row (by decide) hg2 hl2;have f2:=(h.fnt.tr ht).tr' ht2;have yQ:G≠p:=fun e=>by
  obtain⟨cur,hb⟩:=bg (h.live.own 0 (by decide)) (g:=G) (by rw[h0];rfl);subst e;have:=(bU hb h.par).1
  revert this
  decide
 have qM:∀b es c,w2.heap[b]? =some (Obj.map es c)->b≠G:=fun b es c hb e=>by
  subst e;obtain⟨cur,hk⟩:=bg ho0 (g:=b) rfl;unfold Bk at hk;rw[hb] at hk;cases hk
 obtain⟨e1,c1,m1⟩:=a4.isMap;obtain⟨ff,q1,q2⟩:=a5;obtain⟨e2,c2,m2⟩:=q1.isMap;refine⟨upd (upd rv 12 ⟨v',(rv 12).n+m,(rv 12).xs++cs⟩) 0 ⟨(rv 0).v,(rv 0).n,(rv 0).xs.set (init.length*9+7) v'⟩,?_,?_,?_,rfl⟩
 ·refine {par:= ?_,live:=b2,fnt:=⟨f2.unit,?_,f2.chr,f2.lks,f2.fts,f2.axs,f2.rgs,f2.fns,f2.cvt⟩,gmp:=a4.keep (Below.heap_setCell _ _ _ _ (qM _ _ _ m1)),glI:=h.glI,cls:=alJ.tr ⟨ff,q1,q2⟩ ht2 (Below.heap_setCell _ _ _ _ (qM _ _ _ m2)),few:=gq (gq h.few (nt (anJ _ _) hK) (nt (anO (h.few 12 (by decide)) m) hK)) (af _) (nt (h.few 0 (by decide)) (nt (anJ _ _) hK)),low:=h.low}
  ·exact Bk.far a1 (fun e=>yQ e.symm) _
  obtain⟨g1,g2⟩:=h.fnt.gly;refine⟨by show(rv 0).n=_;rw[g1,hs];simp,.inr ?_⟩;rcases g2 with⟨e,_⟩|⟨init',g',ci,e1,e2,h3,h4,h5,h6,h7,h8,h9,h10⟩
  ·rw[hs] at e;simp at e
  rw[hs] at e1;obtain⟨rfl,e1⟩:=List.append_inj' e1 rfl;obtain rfl:g=g':=by simpa using e1
  refine⟨init,_,ci,rfl,?_,h3,ht2.fl akQ.ok (ht.fl akQ.ok h4),(h5.tr PtR.ok ht).tr PtR.ok ht2,(h6.tr akL.ok ht).tr akL.ok ht2,(h7.tr ala.ok ht).tr ala.ok ht2,(h8.tr akX.ok ht).tr akX.ok ht2,((h9.tr ak2.ok ht).app rfl hm (ht.fl ak2.ok hf)).tr ak2.ok ht2,(h10.tr akZ.ok ht).tr akZ.ok ht2⟩;show(rv 0).xs.set (init.length*9+7) v'=_;rw[e2,qC ci _ 7 _ _ h4.1];rfl
 ·exact(KQ.live h.live (i:=12) (by decide) hg).trans (KQ.live a2 (i:=0) (by decide) hg2)
 refine((ant Bd w).grown hg h.size (fun g e=>((h.live.own 12 (by decide)).lt g e).1)).setCell ?_ _;exact((h.live.own 0 (by decide)).lt G (by rw[h0];rfl)).1
theorem PSt.amN (h:PSt w Bd p gm cm gl s rv K){init:List akN}{g:akN}(hs:s.f.akJ=init++[g]){G n0 c0:Nat}(h0:(rv 0).v= .slice (some ⟨G,0,none⟩) n0 c0){v':Value}{m:Nat}{cs:List Value}{ys:List Ins}(hg:w.grownBy w2 (rv 13).v.ownBlock)(ho:w2.ownsRow Bd (kT 13) (kS 13) v' ((rv 13).n+m) ((rv 13).xs++cs))(hl:Loc w (rv 13).v v')
  (hm:m=ys.length) (hf:Fl akZ 2 w (Fz w rv) cs ys) {K':Nat} (hK:K+m<=K'):
  ∃rv',PSt (w2.setCell ⟨G,init.length*9+8,none⟩ v') Bd p gm cm gl {s with f:= {s.f with akJ:=init++[{g with hint:=g.hint++ys}]}} rv' K'/\KQ cm w (w2.setCell ⟨G,init.length*9+8,none⟩ v')/\Below Bd w (w2.setCell ⟨G,init.length*9+8,none⟩ v')/\(rv' 0).v=(rv 0).v:=by
 have ht:Tr w rv w2 (upd rv 13 ⟨v',(rv 13).n+m,(rv 13).xs++cs⟩):=Tr.row (by decide) hg hl;obtain⟨a1,a2,-,a4,a5⟩:=h.row (i:=13) (by decide) (r:=⟨v',(rv 13).n+m,(rv 13).xs++cs⟩) hg ho hl;have k0:(upd rv 13 ⟨v',(rv 13).n+m,(rv 13).xs++cs⟩) 0=rv 0:=rfl;have ho0:=a2.own 0 (by decide);rw[k0,h0] at ho0;have hn0:n0=(rv 0).n:=by obtain⟨A9,c9,e⟩:=gY (h.live.own 0 (by decide));rw[h0] at e;simp only[aon] at e;exact e.2.1
 have hos:=uy (hn0 ▸ ho0) (init.length*9+8) v';rw[hn0] at h0;have hown0:(Value.slice (some ⟨G,0,none⟩) (rv 0).n c0).ownBlock=some G:=rfl;have hg2:w2.grownBy (w2.setCell ⟨G,init.length*9+8,none⟩ v') ((upd rv 13 ⟨v',(rv 13).n+m,(rv 13).xs++cs⟩) 0).v.ownBlock:=by rw[k0,h0,hown0];exact dE w2 ⟨G,_,none⟩ v'
 rw[<-h0] at hos;have hl2:Loc w2 ((upd rv 13 ⟨v',(rv 13).n+m,(rv 13).xs++cs⟩) 0).v (rv 0).v:= .inl rfl;have b2:=a2.row (i:=0) (by decide) (r:=⟨(rv 0).v,(rv 0).n,(rv 0).xs.set (init.length*9+8) v'⟩) hg2 hos hl2;have ht2:Tr w2 (upd rv 13 ⟨v',(rv 13).n+m,(rv 13).xs++cs⟩) (w2.setCell ⟨G,init.length*9+8,none⟩ v') (upd (upd rv 13 ⟨v',(rv 13).n+m,(rv 13).xs++cs⟩) 0 ⟨(rv 0).v,(rv 0).n,(rv 0).xs.set (init.length*9+8) v'⟩):=Tr.row (by decide) hg2 hl2;have f2:=(h.fnt.tr ht).tr' ht2;have yQ:G≠p:=fun e=>by
  obtain⟨cur,hb⟩:=bg (h.live.own 0 (by decide)) (g:=G) (by rw[h0];rfl);subst e;have:=(bU hb h.par).1
  revert this
  decide
 have qM:∀b es c,w2.heap[b]? =some (Obj.map es c)->b≠G:=fun b es c hb e=>by
  subst e;obtain⟨cur,hk⟩:=bg ho0 (g:=b) rfl;unfold Bk at hk;rw[hb] at hk;cases hk
 obtain⟨e1,c1,m1⟩:=a4.isMap;obtain⟨ff,q1,q2⟩:=a5;obtain⟨e2,c2,m2⟩:=q1.isMap;refine⟨upd (upd rv 13 ⟨v',(rv 13).n+m,(rv 13).xs++cs⟩) 0 ⟨(rv 0).v,(rv 0).n,(rv 0).xs.set (init.length*9+8) v'⟩,?_,?_,?_,rfl⟩
 ·refine {par:= ?_,live:=b2,fnt:=⟨f2.unit,?_,f2.chr,f2.lks,f2.fts,f2.axs,f2.rgs,f2.fns,f2.cvt⟩,gmp:=a4.keep (Below.heap_setCell _ _ _ _ (qM _ _ _ m1)),glI:=h.glI,cls:=alJ.tr ⟨ff,q1,q2⟩ ht2 (Below.heap_setCell _ _ _ _ (qM _ _ _ m2)),few:=gq (gq h.few (nt (anJ _ _) hK) (nt (anO (h.few 13 (by decide)) m) hK)) (af _) (nt (h.few 0 (by decide)) (nt (anJ _ _) hK)),low:=h.low}
  ·exact Bk.far a1 (fun e=>yQ e.symm) _
  obtain⟨g1,g2⟩:=h.fnt.gly;refine⟨by show(rv 0).n=_;rw[g1,hs];simp,.inr ?_⟩;rcases g2 with⟨e,_⟩|⟨init',g',ci,e1,e2,h3,h4,h5,h6,h7,h8,h9,h10⟩
  ·rw[hs] at e;simp at e
  rw[hs] at e1;obtain⟨rfl,e1⟩:=List.append_inj' e1 rfl;obtain rfl:g=g':=by simpa using e1
  refine⟨init,_,ci,rfl,?_,h3,ht2.fl akQ.ok (ht.fl akQ.ok h4),(h5.tr PtR.ok ht).tr PtR.ok ht2,(h6.tr akL.ok ht).tr akL.ok ht2,(h7.tr ala.ok ht).tr ala.ok ht2,(h8.tr akX.ok ht).tr akX.ok ht2,(h9.tr ak2.ok ht).tr ak2.ok ht2,((h10.tr akZ.ok ht).app rfl hm (ht.fl akZ.ok hf)).tr akZ.ok ht2⟩;show(rv 0).xs.set (init.length*9+8) v'=_;rw[e2,qC ci _ 8 _ _ h4.1];rfl
 ·exact(KQ.live h.live (i:=13) (by decide) hg).trans (KQ.live a2 (i:=0) (by decide) hg2)
 refine((ant Bd w).grown hg h.size (fun g e=>((h.live.own 13 (by decide)).lt g e).1)).setCell ?_ _;exact((h.live.own 0 (by decide)).lt G (by rw[h0];rfl)).1
end
end
section
open Go.RowKit
attribute [-go_sem] Builtin.append_
theorem Dj (w:World)(S:Bs)(l:List Int)(h:∀x∈l,I64 x):Fl akL 1 w S (aH l) l:=by
 induction l with
 |nil=>exact Fl.nil
 |cons x r ih=>exact(Fl.one (R:=akL) (cs:=[.int .i64 x]) ⟨rfl,h x (by simp)⟩ rfl).append (ih (fun y hy=>h y (by simp[hy])))
theorem FC (l:List B):∀x∈l.map aI,I64 x:=by intro x hx;rw[anZ] at hx;obtain⟨t,_,rfl⟩:=hx;exact dH t
theorem alg.below {w w':World}{A:Option Addr}{n:Nat}{ws:List P3}(h:alg w A n ws)(hb:Below w.heap.size w w'):alg w' A n ws:=⟨h.rd.below hb,h.len,h.few⟩
theorem UG (w:World)(Bd p gm cm:Nat)(gl:Gl)(s:PS)(rv:Rows)(K:Nat)(A:Option Addr)(n c:Nat)(ws:List P3)(t:B)(l:List B)(hP:PSt w Bd p gm cm gl s rv K)(hL:alg w A n ws)(hT:ag ws=t::l)(hK:K<=10000000000)(hc:n<=c):
  Calls Tryz.prog 76 #[.pointer (some ⟨p,0,none⟩),.slice A n c] w (akO w Bd p gm cm gl (K+n) (Oi s l)):=by
 have hn:n=l.length+1:=by rw[<-hL.length];exact dF hT
 have hB:=hP.size;have HP:=hd0 hP;have hpb:p<w.heap.size:=hP.par.lt;obtain⟨A0,c0,hv⟩:=hP.slice (i:=7) (by decide);have kp:w.cell? ⟨p,8,none⟩=some (rv 7).v:=hP.par.cell 8;rw[hv] at kp;have fp:=hP.par.frozen 8;have hfew:=hP.few 7 (by decide);have HR:Hid (Oi s l=fin (fD 0 l) {s with f:= {s.f with cvt:=s.f.cvt++l.map aI}}):=rfl;obtain⟨A',hsub,hrd,hlen⟩:=hL.sub hc 1 1 rfl (by omega);have hns:=hd0 (fun w1 rb (hr:Rdr w1 rb p 0) (hb:Below w.heap.size w w1)=>vI w1 rb p 0 A' (n - 1) (c - 1) (ws.drop 1) hr (hrd.below hb) hlen (by have:=hL.few;omega));rw[jO hT] at hns;have hll:l.length=n - 1:=by omega
 have hnn:=hL.few;have hfl:=hd0 (fun(w:World) S=>Dj w S (l.map aI) (FC l));have hlm:Hid (n - 1=(l.map aI).length):=by show _=_;simp[hll]
 clear hP hL hT hrd hlen hll hn;go_enter Tryz.func76,Tryz.ntmps76
 go_wp2_with fail
 refine(gy w p).mono ?_;rintro e w1 ⟨rfl,hr1,hb1⟩;have k1:w1.cell? ⟨p,8,none⟩=some (.slice A0 (rv 7).n c0):=((aj hb1).1 _ _ hpb).trans kp;have hz1:=hb1.size;have kP:=hd0 hr1;have Hb1:=hd0 hb1;clear hr1 hb1;go_wp2_with fail
 have k1d:w1.drew.cell? ⟨p,8,none⟩=some (.slice A0 (rv 7).n c0):=k1
 go_region_with (go_at_call 124;refine(hns.out _ _ (by exact kP.out) (by exact Hb1.out.drew)).mono ?_;rintro e w2 ⟨v,rfl,A4,c4,rfl,fJ,hr4,hg4⟩;have hb2:=aZ Hb1.out.drew hg4 (af _);have aJ:=HP.out.below hb2;have hown:=aJ.live.own 7 (by decide);rw[hv] at hown;have BX:=(jl fJ).rd;obtain⟨A5,c5,w9,hrun,aS,ax,bi⟩:=Gf iL 22 w2 Bd _ c0 A0 _ _ A4 (n - 1) c4 _ hown BX (uA _) (by omega) aJ.size;have k2:w2.cell? ⟨p,8,none⟩=some (.slice A0 (rv 7).n c0):=((aj hb2).1 _ _ hpb).trans kp;rw[<-hv] at ax bi;have bP:Bk w9 p jy (dW s rv gm cm):=(aJ.row (i:=7) (by decide) (r:=⟨.slice A5 ((rv 7).n+(n - 1)) c5,_,_⟩) ax aS bi).1;have jJ:=Bk.grown hr4 ax (aJ.live.own 7 (by decide)) (by decide);have x9:w9.cell? ⟨p,8,none⟩=some (rv 7).v:=bP.cell 8;have y9:=bP.frozen 8;have z9:w9.cell? ⟨w.heap.size,1,none⟩=some (.int .i64 (fD 0 l)):=jJ.cell 1;have bK:=hd0 (PSt.amx (m:=n - 1) (K':=K+n) aJ ax aS bi hlm.out (hfl.out _ _) (by omega));have iD:=hd0 ((hb2.mono hB).trans (aJ.alD (i:=7) (by decide) ax 8 (.slice A5 ((rv 7).n+(n - 1)) c5) aJ.size));have HQ:=hd0 (KQ.below (cm:=cm) hb2);clear hown aS ax bi bP jJ aJ hb2 fJ hr4 hg4 BX)
 all_goals
  go_wp2;go_ret
  exact akO.fin HR.out iD.out (HQ.out.trans bK.out.2) bK.out.1
end
section
open Go.RowKit Go.Sort
theorem aaC (ws:List B):ws.length<=(fC ws).length:=by
 induction ws with
 |nil=>simp
 |cons a l ih=>
  have e:fC (a::l)=32::a++fC l:=by simp[fC]
  rw[e];simp;omega
theorem kQ (f:B)(ws:List B):ws.length+1<=(ay f ws).length:=by have:=aaC ws;simp only[ay,la,aT,ln];omega
theorem ZG (gs:List akN)(l:List Int):1<=(setW gs l).length:=by
 by_cases h:l.length=1
 ·match l,h with
  |[n],_=>simp[setW]
 rw[JX gs l h];simp
theorem Ff (gs:List akN)(l:List (List Int)):l.length<=(di gs l).length:=by
 induction l with
 |nil=>simp
 |cons a l ih=>
  have h1:=ZG gs a;have e:di gs (a::l)=setW gs a++di gs l:=by simp[di]
  rw[e,la,aT];omega
theorem QT (w:World)(Bd g:Nat)(fc:Nat->Value)(txt:B)(gs:List akN)(kind:Int)(A0 B1 B2 B3 B4:Option Addr)(c0 d1 d2 d3 d4:Nat)(r:als)
  (hT:Tabs w) (hP:PN w g gs) (hgl:gs.length<=1000000000000) (hp:Pr w Bd g fc txt) (hBd:Bd<=w.heap.size)
  (h0:Sl akM 1 w (FT w) A0 r.back) (h1:Sl akM 1 w (FT w) B1 r.in') (h2:Sl akM 1 w (FT w) B2 r.ahead) (h3:Sl akL 1 w (FT w) B3 r.out) (h4:Sl alu 2 w (FT w) B4 r.calls) (hx:I64 r.x)
  (hlen:txt.length+(nP gs kind r).length<=10000000000):
  Calls Tryz.prog 98 #[.pointer (some ⟨g,0,none⟩),.int .i64 kind,.agg #[.slice A0 r.back.length c0,.slice B1 r.in'.length d1,.slice B2 r.ahead.length d2,.slice B3 r.out.length d3,.slice B4 r.calls.length d4,.int .i64 r.x]] w
   fun e w'=>e= .returned (.tuple #[])/\Pr w' Bd g fc (txt++nP gs kind r)/\KP w w'/\Below Bd w w':=by
 have hw:=kQ dL (zQ gs kind r);have hrl:txt.length+(ay dL (zQ gs kind r)).length<=10000000000:=hlen;have e:∀so,outW gs kind r=so->zQ gs kind r=di gs r.back++[[47]]++di gs r.in'++[[47]]++di gs r.ahead++[[62]]++so:=by intro so h;simp[zQ,h]
 have wV:∀so,outW gs kind r=so->(di gs r.back).length+(di gs r.in').length+(di gs r.ahead).length+so.length+3<=10000000000:=by intro so h;have:=congrArg List.length (e so h);simp only[la,aT,ln] at this;omega
 have hHL:∀so,outW gs kind r=so->txt.length+(ay dL (di gs r.back++[[47]]++di gs r.in'++[[47]]++di gs r.ahead++[[62]]++so)).length<=1000000000000/\(di gs r.back++[[47]]++di gs r.in'++[[47]]++di gs r.ahead++[[62]]++so).length<=1000000000000:=by intro so h;rw[<-e so h];exact⟨by omega,by omega⟩
 have g0:=Ff gs r.back;have g1:=Ff gs r.in';have g2:=Ff gs r.ahead;have hl0:=wV _ rfl;have S0:Hid (∀w',Below w.heap.size w w'->Calls Tryz.prog 146 #[.pointer (some ⟨g,0,none⟩),.slice A0 r.back.length c0] w' (fV w' (di gs r.back))):=fun w' hb=>FH w' g gs A0 c0 r.back (hT.all hb) (hP.below hb) hgl ((KP.below hb).sl akM.ok h0) (by omega) (by omega)
 have S1:Hid (∀w',Below w.heap.size w w'->Calls Tryz.prog 146 #[.pointer (some ⟨g,0,none⟩),.slice B1 r.in'.length d1] w' (fV w' (di gs r.in'))):=fun w' hb=>FH w' g gs B1 d1 r.in' (hT.all hb) (hP.below hb) hgl ((KP.below hb).sl akM.ok h1) (by omega) (by omega)
 have S2:Hid (∀w',Below w.heap.size w w'->Calls Tryz.prog 146 #[.pointer (some ⟨g,0,none⟩),.slice B2 r.ahead.length d2] w' (fV w' (di gs r.ahead))):=fun w' hb=>FH w' g gs B2 d2 r.ahead (hT.all hb) (hP.below hb) hgl ((KP.below hb).sl akM.ok h2) (by omega) (by omega)
 have S3:r.out.length<=10000000000->Hid (∀w',Below w.heap.size w w'->Calls Tryz.prog 147 #[.pointer (some ⟨g,0,none⟩),.slice B3 r.out.length d3] w' (fV w' (r.out.map (cO gs)))):=fun ho w' hb=>OX w' g gs B3 d3 r.out (hT.all hb) (hP.below hb) hgl ((KP.below hb).sl akL.ok h3) (by omega)
 show Calls _ _ _ _ fun e w'=>e= .returned (.tuple #[])/\Pr w' Bd g fc (txt++ay dL (zQ gs kind r))/\KP w w'/\Below Bd w w'
 by_cases k1:kind=1
 ·subst k1;have hs:outW gs 1 r=r.out.map (cO gs):=by simp[outW]
  exact acV w Bd g fc txt A0 B1 B2 B3 B4 c0 d1 d2 d3 d4 r.back r.in' r.ahead r.out r.calls r.x _ _ _ _ hp hBd S0 S1 S2 (wV _ hs) (S3 (by have:=wV _ hs;rw[anB] at this;omega)) _ (e _ hs) (hHL _ hs)
 by_cases k2:kind=2
 ·subst k2;have hs:outW gs 2 r=r.out.map (cO gs):=by simp[outW]
  exact aet w Bd g fc txt A0 B1 B2 B3 B4 c0 d1 d2 d3 d4 r.back r.in' r.ahead r.out r.calls r.x _ _ _ _ hp hBd S0 S1 S2 (wV _ hs) (S3 (by have:=wV _ hs;rw[anB] at this;omega)) _ (e _ hs) (hHL _ hs)
 by_cases k3:kind=3
 ·subst k3;have hs:outW gs 3 r=r.out.map (cO gs):=by simp[outW]
  exact aes w Bd g fc txt A0 B1 B2 B3 B4 c0 d1 d2 d3 d4 r.back r.in' r.ahead r.out r.calls r.x _ _ _ _ hp hBd S0 S1 S2 (wV _ hs) (S3 (by have:=wV _ hs;rw[anB] at this;omega)) _ (e _ hs) (hHL _ hs)
 by_cases k5:kind=5
 ·subst k5;have hs:outW gs 5 r=r.out.map (cO gs):=by simp[outW]
  exact adR w Bd g fc txt A0 B1 B2 B3 B4 c0 d1 d2 d3 d4 r.back r.in' r.ahead r.out r.calls r.x _ _ _ _ hp hBd S0 S1 S2 (wV _ hs) (S3 (by have:=wV _ hs;rw[anB] at this;omega)) _ (e _ hs) (hHL _ hs)
 by_cases k4:kind=4
 ·subst k4;have hs:outW gs 4 r=r.calls.map (fun c=>ah c.at'++58::ah c.lookup):=by simp[outW]
  exact ac3 w Bd g fc txt A0 B1 B2 B3 B4 c0 d1 d2 d3 d4 r.back r.in' r.ahead r.out r.calls r.x _ _ _ _ hp hBd S0 S1 S2 (wV _ hs) hT h4 (by simp) rfl _ (e _ hs) (hHL _ hs)
 by_cases k6:kind=6
 ·subst k6;have hs:outW gs 6 r=[ah r.x]:=by simp[outW]
  exact adJ w Bd g fc txt A0 B1 B2 B3 B4 c0 d1 d2 d3 d4 r.back r.in' r.ahead r.out r.calls r.x _ _ _ _ hp hBd S0 S1 S2 (wV _ hs) (ah r.x) (fun w' hb=>aX w' r.x (hT.all hb) hx) _ (e _ hs) (hHL _ hs)
 have hs:outW gs kind r=[]:=by simp[outW,k1,k2,k3,k4,k5,k6]
 have e':=e _ hs;have hh:=hHL _ hs;rw[an0] at e' hh;exact Wi w Bd g fc txt A0 B1 B2 B3 B4 c0 d1 d2 d3 d4 r.back r.in' r.ahead r.out r.calls r.x _ _ _ [] hp hBd S0 S1 S2 (wV _ hs) kind (by simpa using k1) (by simpa using k2) (by simpa using k3) (by simpa using k4) (by simpa using k5) (by simpa using k6) _ e' hh
theorem lF (w1:World)(hsz m:Nat)(hh:w1.heap.size=hsz)(Bd g:Nat)(fc:Nat->Value)(txt first:B)(us:List B)(hm:us.length=m)(h:Pr w1 Bd g fc txt)(hlen:txt.length+(ay first us).length<=10000000000):
  Calls Tryz.prog 41 #[.pointer (some ⟨g,0,none⟩),.string ⟨first.toArray⟩,.slice (some ⟨hsz,0,none⟩) m m] (w1.alloc (.cells (strs us).toArray 9)) fun e w'=>e= .returned (.tuple #[])/\Pr w' Bd g fc (txt++ay first us)/\KP w1 w'/\Below Bd w1 w':=by
 subst hh;subst hm;have hw:=kQ first us
 have hlt:=h.lt;have hb:Below w1.heap.size w1 (w1.alloc (.cells (strs us).toArray 9)):=(ant _ _).alloc (af _) _;have hs:Sl al5 1 (w1.alloc (.cells (strs us).toArray 9)) (FT (w1.alloc (.cells (strs us).toArray 9))) (some ⟨w1.heap.size,0,none⟩) us:=by refine⟨strs us,QP _ _ _,fun _=>⟨w1.heap.size,0,rfl,GL (Bk.new w1 9 (strs us).toArray) (by decide) (by decide),fun j u hu=> ?_⟩⟩;rw[Bk.cell (Bk.new w1 9 (strs us).toArray)];simpa using hu
 refine(DI _ Bd g fc txt first _ us.length us (h.below hb) hs (by omega) (by omega)).mono ?_;rintro e w' ⟨he,hp,hk,hb'⟩;exact⟨he,hp,(KP.below hb).trans hk,(hb.mono (by omega)).trans hb'⟩
theorem Lm {α:Type}(f:α->B)(l:List α)(k:Nat):((l.take k).flatMap f).length<=(l.flatMap f).length:=by
 conv=>rhs;rw[<-an1 k l]
 simp only[an2,la];omega
theorem bH {α:Type}(f:α->B)(l:List α)(k:Nat)(x:α)(h:l[k]? =some x):((l.take k).flatMap f).length+(f x).length<=(l.flatMap f).length:=by have:=Lm f l (k+1);rw[bM f l k x h,la] at this;exact this
theorem PN.kp {w w':World}{Bd g:Nat}{fc:Nat->Value}{gs:List akN}{txt txt':B}(h:PN w g gs)(hp:Pr w Bd g fc txt)(hp':Pr w' Bd g fc txt')(hk:KP w w'):PN w' g gs:=by obtain⟨A,c,h1,h2⟩:=h;obtain⟨ad,v,-,q,-⟩:=hp;obtain⟨ad',v',-,q',-⟩:=hp';have e1:w.cell? ⟨g,1,none⟩=some (fc 1):=Bk.cell q 1;have e2:w'.cell? ⟨g,1,none⟩=some (fc 1):=Bk.cell q' 1;exact⟨A,c,by rw[e2,<-e1,h1],hk.sl akQ.ok h2⟩
theorem WA (w:World)(Bd g:Nat)(fc:Nat->Value)(txt:B)(gs:List akN)(A:Option Addr)(c:Nat)(l:Lookup)(hT:Tabs w)(hG:nG<=Bd)(hP:PN w g gs)(hgl:gs.length<=1000000000000)(hp:Pr w Bd g fc txt)(hBd:Bd<=w.heap.size)
  (hA:Sl ak3 6 w (FT w) A l.rules) (hrl:l.rules.length<=10000000000) (hlen:txt.length+(dN gs l).length<=10000000000):
  Calls Tryz.prog 48 #[.pointer (some ⟨g,0,none⟩),.agg #[.int .i64 l.kind,.bool l.alr,.slice A l.rules.length c]] w
   fun e w'=>e= .returned (.tuple #[])/\Pr w' Bd g fc (txt++dN gs l)/\KP w w'/\Below Bd w w':=by
 obtain⟨kind,yw,rules⟩:=l;dsimp only at hA hrl ⊢;obtain⟨T0,hT0⟩:∃T0,ay gX (pick aG kind::if yw then [eU] else [])=T0:=⟨_,rfl⟩
 have hlen2:txt.length+T0.length+(rules.flatMap (nP gs kind)).length<=10000000000:=by unfold dN at hlen;dsimp only at hlen;rw[hT0,la] at hlen;omega
 have HE:Hid (dN gs ⟨kind,yw,rules⟩=T0++rules.flatMap (nP gs kind)):=by rw[<-hT0];rfl
 clear hlen;have HT0:=hd0 hT0;clear hT0;have hb0:Below w.heap.size w (w.alloc (.cells #[.int .i64 kind,.bool yw,.slice A rules.length c] 72)):=(ant _ _).alloc (af _) _;have hT1:=hT.all hb0;have hp1:=hp.below hb0;have hk0:=hd0 (Bk.new w 72 #[.int .i64 kind,.bool yw,.slice A rules.length c]);have Hb0:=hd0 hb0;have hpl:=hp.lt;clear hb0;go_enter Tryz.func48,Tryz.ntmps48
 cases yw with
 |true=>
  have HT1:Hid (ay gX [pick aG kind,eU]=T0):=hd0 (by have:=HT0.out;simpa using this);have hll:txt.length+(ay gX [pick aG kind,eU]).length<=10000000000:=by rw[HT1.out];omega
  go_wp2_with (first
   |(go_at_call 97;refine(AA _ kind hT1).mono ?_;rintro e w' ⟨rfl,rfl⟩)
   |(go_at_call 41;refine(lF _ (w.heap.size+1) 2 (World.size_alloc _ _) Bd g fc txt gX [pick aG kind,eU] rfl hp1 hll).mono ?_;rintro e w1 ⟨rfl,hp2,hk2,hb2⟩;have q2:w1.cell? ⟨w.heap.size,2,none⟩=some (.slice A rules.length c):=Bk.cell (hk2.bk hk0.out (by decide) (by decide)) 2))
  go_loopw [23] (fun i wr=>∃k:Nat,k<=rules.length/\i= .int .i64 k/\Pr wr Bd g fc (txt++T0++(rules.take k).flatMap (nP gs kind))/\KP (w.alloc (.cells #[.int .i64 kind,.bool true,.slice A rules.length c] 72)) wr/\Below Bd w wr) (fun i _=>rules.length - (intOf i).toNat)
  case atStart=>exact⟨0,nz _,rfl,by rw[<-HT1.out];simpa using hp2,hk2,(Hb0.out.mono hBd).trans hb2⟩
  case round=>
   obtain⟨k,hk,rfl,hpr,hkp,hbl⟩:=hrel;have q0:wr.cell? ⟨w.heap.size,0,none⟩=some (.int .i64 kind):=Bk.cell (hkp.bk hk0.out (by decide) (by decide)) 0;have zr:w.heap.size<wr.heap.size:=World.block_lt_of_cell? _ _ q0;clear q2;by_cases hlt:k<rules.length
   ·obtain⟨b,o,x,E0,e0,E1,e1,E2,e2,E3,e3,E4,e4,rfl,-,hx,p0,p1,p2,p3,p4,p5,r5,j0,j1,j2,j3,j4⟩:=(hkp.sl ak3.ok ((KP.below Hb0.out).sl ak3.ok hA)).rule hlt;have hsn:=hd0 (bM (nP gs kind) rules k x hx.out);have hle:=bH (nP gs kind) rules k x hx.out;have hba:Below wr.heap.size wr (wr.alloc (.cells #[.slice E0 x.back.length e0,.slice E1 x.in'.length e1,.slice E2 x.ahead.length e2,.slice E3 x.out.length e3,.slice E4 x.calls.length e4,.int .i64 x.x] 76)):=(ant _ _).alloc (af _) _;have hka:=KP.below hba;have hP0:PN wr g gs:=(hP.below Hb0.out).kp hp1 hpr hkp;have hR:=hd0 (QT _ Bd g fc _ gs kind E0 E1 E2 E3 E4 e0 e1 e2 e3 e4 x ((hT.below hbl hG).all hba) (hP0.below hba) hgl (hpr.below hba) (nt hpl.1 (nt (aoa (anD hpl.2 (aoa zr))) hba.size)) (hka.sl akM.ok j0) (hka.sl akM.ok j1) (hka.sl akM.ok j2) (hka.sl akL.ok j3) (hka.sl alu.ok j4) r5 (by simp only[la];omega));have Gj:=hd0 hka;have Hf:=hd0 hba;clear hx r5 j0 j1 j2 j3 j4 hle hka hba hP0;go_wp2_with (go_at_call 98;refine hR.out.mono ?_;rintro e w3 ⟨rfl,hp3,hk3,hb3⟩)
    go_roundw
    case rel=>exact⟨k+1,by omega,by simp,by rw[hsn.out,<-anH];exact hp3,hkp.trans (Gj.out.trans hk3),hbl.trans ((Hf.out.mono (by omega)).trans hb3)⟩
    case measure=>simp[intOf];omega
   obtain rfl:k=rules.length:=by omega
   rw[anA] at hpr;go_wp2
   go_end0
   refine⟨rfl,?_,(KP.below Hb0.out).trans hkp,hbl⟩;rw[HE.out,<-anH];exact hpr
 |false=>
  have HT1:Hid (ay gX [pick aG kind]=T0):=hd0 (by have:=HT0.out;simpa using this);have hll:txt.length+(ay gX [pick aG kind]).length<=10000000000:=by rw[HT1.out];omega
  go_wp2_with (first
   |(go_at_call 97;refine(AA _ kind hT1).mono ?_;rintro e w' ⟨rfl,rfl⟩)
   |(go_at_call 41;refine(lF _ (w.heap.size+1) 1 (World.size_alloc _ _) Bd g fc txt gX [pick aG kind] rfl hp1 hll).mono ?_;rintro e w1 ⟨rfl,hp2,hk2,hb2⟩;have q2:w1.cell? ⟨w.heap.size,2,none⟩=some (.slice A rules.length c):=Bk.cell (hk2.bk hk0.out (by decide) (by decide)) 2))
  go_loopw [23] (fun i wr=>∃k:Nat,k<=rules.length/\i= .int .i64 k/\Pr wr Bd g fc (txt++T0++(rules.take k).flatMap (nP gs kind))/\KP (w.alloc (.cells #[.int .i64 kind,.bool false,.slice A rules.length c] 72)) wr/\Below Bd w wr) (fun i _=>rules.length - (intOf i).toNat)
  case atStart=>exact⟨0,nz _,rfl,by rw[<-HT1.out];simpa using hp2,hk2,(Hb0.out.mono hBd).trans hb2⟩
  case round=>
   obtain⟨k,hk,rfl,hpr,hkp,hbl⟩:=hrel;have q0:wr.cell? ⟨w.heap.size,0,none⟩=some (.int .i64 kind):=Bk.cell (hkp.bk hk0.out (by decide) (by decide)) 0;have zr:w.heap.size<wr.heap.size:=World.block_lt_of_cell? _ _ q0;clear q2;by_cases hlt:k<rules.length
   ·obtain⟨b,o,x,E0,e0,E1,e1,E2,e2,E3,e3,E4,e4,rfl,-,hx,p0,p1,p2,p3,p4,p5,r5,j0,j1,j2,j3,j4⟩:=(hkp.sl ak3.ok ((KP.below Hb0.out).sl ak3.ok hA)).rule hlt;have hsn:=hd0 (bM (nP gs kind) rules k x hx.out);have hle:=bH (nP gs kind) rules k x hx.out;have hba:Below wr.heap.size wr (wr.alloc (.cells #[.slice E0 x.back.length e0,.slice E1 x.in'.length e1,.slice E2 x.ahead.length e2,.slice E3 x.out.length e3,.slice E4 x.calls.length e4,.int .i64 x.x] 76)):=(ant _ _).alloc (af _) _;have hka:=KP.below hba;have hP0:PN wr g gs:=(hP.below Hb0.out).kp hp1 hpr hkp;have hR:=hd0 (QT _ Bd g fc _ gs kind E0 E1 E2 E3 E4 e0 e1 e2 e3 e4 x ((hT.below hbl hG).all hba) (hP0.below hba) hgl (hpr.below hba) (nt hpl.1 (nt (aoa (anD hpl.2 (aoa zr))) hba.size)) (hka.sl akM.ok j0) (hka.sl akM.ok j1) (hka.sl akM.ok j2) (hka.sl akL.ok j3) (hka.sl alu.ok j4) r5 (by simp only[la];omega));have Gj:=hd0 hka;have Hf:=hd0 hba;clear hx r5 j0 j1 j2 j3 j4 hle hka hba hP0;go_wp2_with (go_at_call 98;refine hR.out.mono ?_;rintro e w3 ⟨rfl,hp3,hk3,hb3⟩)
    go_roundw
    case rel=>exact⟨k+1,by omega,by simp,by rw[hsn.out,<-anH];exact hp3,hkp.trans (Gj.out.trans hk3),hbl.trans ((Hf.out.mono (by omega)).trans hb3)⟩
    case measure=>simp[intOf];omega
   obtain rfl:k=rules.length:=by omega
   rw[anA] at hpr;go_wp2
   go_end0
   refine⟨rfl,?_,(KP.below Hb0.out).trans hkp,hbl⟩;rw[HE.out,<-anH];exact hpr
end
end Go.Proofs.YtkijckccfookeaaGreatDoor
