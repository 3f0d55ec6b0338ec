/- Lemmas. -/
import Derived.Test.YtkijckccfookeaaGreatDoorV22
set_option linter.unusedVariables false
set_option linter.unusedSimpArgs false
set_option maxRecDepth 100000
set_option maxHeartbeats 32000000
namespace Go.Proofs.YtkijckccfookeaaGreatDoor
open Go.RowKit
section
theorem FD.tr' {w w':World}{rv Gu rv':Rows}{f:Fnt}(h:FD w (Fz w Gu) rv f)(t:Tr w Gu w' rv'):FD w' (Fz w' rv') rv f:=⟨h.unit,h.gly.tr t,h.chr.tr aop.ok t,h.lks.tr t,h.fts.tr anU.ok t,h.axs.tr aoh.ok t,h.rgs.tr anY.ok t,h.fns.tr aod.ok t,h.cvt.tr anO.ok t⟩
section
variable {w w2:World} {Bd p gm cm:Nat} {gl:Gl} {s:PS} {rv:Rows} {K:Nat}
theorem PSt.aoz (h:PSt w Bd p gm cm gl s rv K){init:List anP}{g:anP}(hs:s.f.anL=init++[g]):
  ∃G c0 ci,(rv 0).v= .slice (some ⟨G,0,none⟩) (init.length+1) c0/\(rv 0).xs=ci++[.string ⟨g.name.toArray⟩,.int .i64 g.advance,.bool g.mark,(rv 8).v,(rv 9).v,(rv 10).v,(rv 11).v,(rv 12).v,(rv 13).v]/\ci.length=init.length*9/\G<w.heap.size/\
   (∀j,j<9->w.cell? ⟨G,init.length*9+j,none⟩=[Value.string ⟨g.name.toArray⟩,.int .i64 g.advance,.bool g.mark,(rv 8).v,(rv 9).v,(rv 10).v,(rv 11).v,(rv 12).v,(rv 13).v][j]?)/\(∀j,w.frozen? ⟨G,j,none⟩=false)/\(∃cur,Bk w G 59 cur):=by
 have hn:=h.fnt.gly.1;have ho:=h.live.own 0 (by decide);rcases h.fnt.gly.2 with⟨e,_⟩|⟨init',g',ci,e1,e2,e3,e4,-⟩
 ·rw[hs] at e;simp at e
 rw[hs] at e1;obtain⟨rfl,e1⟩:=List.append_inj' e1 rfl;obtain rfl:g=g':=by simpa using e1
 have hl:=e4.1;have hn2:(rv 0).n=init.length+1:=by rw[hn,hs];simp
 rcases ho.2 with⟨_,h2⟩|⟨G,cap,cur,h1,hb,hh,hnc,hm,hsz,htk⟩
 ·omega
 rw[hn2] at h1;refine⟨G,cap,ci,h1,e2,hl,(aqo.1 hh).1,fun j hj=> ?_,fun j=>Bk.frozen hh j,⟨cur,hh⟩⟩;rw[Bk.cell hh];have hlt:init.length*9+j<(rv 0).n*kS 0:=by rw[hn2];show _<(init.length+1)*9;omega
 have:(cur.toList.take ((rv 0).n*kS 0))[init.length*9+j]? =cur.toList[init.length*9+j]? :=by rw[aqP,if_pos hlt]
 rw[<-Array.getElem?_toList,<-this,htk,e2,aqI (by rw[hl];omega),hl,Nat.add_sub_cancel_left]
theorem qE (ci:List Value)(k off:Nat)(l:List Value)(v:Value)(hk:ci.length=k):(ci++l).set (k+off) v=ci++l.set off v:=by subst hk;rw[List.set_append_right _ _ (by omega),Nat.add_sub_cancel_left]
theorem PSt.apH (h:PSt w Bd p gm cm gl s rv K){init:List anP}{g:anP}(hs:s.f.anL=init++[g]){G n0 c0:Nat}(h0:(rv 0).v= .slice (some ⟨G,0,none⟩) n0 c0){v':Value}{m:Nat}{cs:List Value}{ys:List Pt}(hg:w.grownBy w2 (rv 8).v.ownBlock)(ho:w2.ownsRow Bd (kT 8) (kS 8) v' ((rv 8).n+m) ((rv 8).xs++cs))(hl:Loc w (rv 8).v v')
  (hm:m=ys.length) (hf:Fl PtR 3 w (Fz w rv) cs ys) {K':Nat} (hK:K+m<=K'):
  ∃rv',PSt (w2.setCell ⟨G,init.length*9+3,none⟩ v') Bd p gm cm gl {s with f:= {s.f with anL:=init++[{g with points:=g.points++ys}]}} rv' K'/\KQ cm w (w2.setCell ⟨G,init.length*9+3,none⟩ v')/\Below Bd w (w2.setCell ⟨G,init.length*9+3,none⟩ v')/\(rv' 0).v=(rv 0).v:=by
 have ht:Tr w rv w2 (upd rv 8 ⟨v',(rv 8).n+m,(rv 8).xs++cs⟩):=Tr.row (by decide) hg hl;obtain⟨a1,a2,-,a4,a5⟩:=h.row (i:=8) (by decide) (r:=⟨v',(rv 8).n+m,(rv 8).xs++cs⟩) hg ho hl;have k0:(upd rv 8 ⟨v',(rv 8).n+m,(rv 8).xs++cs⟩) 0=rv 0:=rfl;have ho0:=a2.own 0 (by decide);rw[k0,h0] at ho0;have hn0:n0=(rv 0).n:=by obtain⟨A9,c9,e⟩:=gV (h.live.own 0 (by decide));rw[h0] at e;simp only[arf] at e;exact e.2.1
 have hos:=uh (hn0 ▸ ho0) (init.length*9+3) v';rw[hn0] at h0;have hown0:(Value.slice (some ⟨G,0,none⟩) (rv 0).n c0).ownBlock=some G:=rfl;have hg2:w2.grownBy (w2.setCell ⟨G,init.length*9+3,none⟩ v') ((upd rv 8 ⟨v',(rv 8).n+m,(rv 8).xs++cs⟩) 0).v.ownBlock:=by rw[k0,h0,hown0];exact dF w2 ⟨G,_,none⟩ v'
 rw[<-h0] at hos;have hl2:Loc w2 ((upd rv 8 ⟨v',(rv 8).n+m,(rv 8).xs++cs⟩) 0).v (rv 0).v:= .inl rfl;have b2:=a2.row (i:=0) (by decide) (r:=⟨(rv 0).v,(rv 0).n,(rv 0).xs.set (init.length*9+3) v'⟩) hg2 hos hl2;have ht2:Tr w2 (upd rv 8 ⟨v',(rv 8).n+m,(rv 8).xs++cs⟩) (w2.setCell ⟨G,init.length*9+3,none⟩ v') (upd (upd rv 8 ⟨v',(rv 8).n+m,(rv 8).xs++cs⟩) 0 ⟨(rv 0).v,(rv 0).n,(rv 0).xs.set (init.length*9+3) v'⟩):=Tr.row (by decide) hg2 hl2;have f2:=(h.fnt.tr ht).tr' ht2;have zi:G≠p:=fun e=>by
  obtain⟨cur,hb⟩:=bC (h.live.own 0 (by decide)) (g:=G) (by rw[h0];rfl);subst e;have:=(bY hb h.par).1
  revert this
  decide
 have qN:∀b es c,w2.heap[b]? =some (Obj.map es c)->b≠G:=fun b es c hb e=>by
  subst e;obtain⟨cur,hk⟩:=bC ho0 (g:=b) rfl;unfold Bk at hk;rw[hb] at hk;cases hk
 obtain⟨e1,c1,m1⟩:=a4.isMap;obtain⟨ff,q1,q2⟩:=a5;obtain⟨e2,c2,m2⟩:=q1.isMap;refine⟨upd (upd rv 8 ⟨v',(rv 8).n+m,(rv 8).xs++cs⟩) 0 ⟨(rv 0).v,(rv 0).n,(rv 0).xs.set (init.length*9+3) v'⟩,?_,?_,?_,rfl⟩
 ·refine {par:= ?_,live:=b2,fnt:=⟨f2.unit,?_,f2.chr,f2.lks,f2.fts,f2.axs,f2.rgs,f2.fns,f2.cvt⟩,gmp:=a4.keep (Below.heap_setCell _ _ _ _ (qN _ _ _ m1)),glI:=h.glI,cls:=aoF.tr ⟨ff,q1,q2⟩ ht2 (Below.heap_setCell _ _ _ _ (qN _ _ _ m2)),few:=gz (gz h.few (nt (aqA _ _) hK) (nt (aqF (h.few 8 (by decide)) m) hK)) (ag _) (nt (h.few 0 (by decide)) (nt (aqA _ _) hK)),low:=h.low}
  ·exact Bk.far a1 (fun e=>zi e.symm) _
  obtain⟨g1,g2⟩:=h.fnt.gly;refine⟨by show(rv 0).n=_;rw[g1,hs];simp,.inr ?_⟩;rcases g2 with⟨e,_⟩|⟨init',g',ci,e1,e2,h3,h4,h5,h6,h7,h8,h9,h10⟩
  ·rw[hs] at e;simp at e
  rw[hs] at e1;obtain⟨rfl,e1⟩:=List.append_inj' e1 rfl;obtain rfl:g=g':=by simpa using e1
  refine⟨init,_,ci,rfl,?_,h3,ht2.fl anS.ok (ht.fl anS.ok h4),((h5.tr PtR.ok ht).app rfl hm (ht.fl PtR.ok hf)).tr PtR.ok ht2,(h6.tr anO.ok ht).tr anO.ok ht2,(h7.tr aog.ok ht).tr aog.ok ht2,(h8.tr an2.ok ht).tr an2.ok ht2,(h9.tr an6.ok ht).tr an6.ok ht2,(h10.tr an5.ok ht).tr an5.ok ht2⟩;show(rv 0).xs.set (init.length*9+3) v'=_;rw[e2,qE ci _ 3 _ _ h4.1];rfl
 ·exact(KQ.live h.live (i:=8) (by decide) hg).trans (KQ.live a2 (i:=0) (by decide) hg2)
 refine((aqk Bd w).grown hg h.size (fun g e=>((h.live.own 8 (by decide)).lt g e).1)).setCell ?_ _;exact((h.live.own 0 (by decide)).lt G (by rw[h0];rfl)).1
theorem PSt.apy (h:PSt w Bd p gm cm gl s rv K){init:List anP}{g:anP}(hs:s.f.anL=init++[g]){G n0 c0:Nat}(h0:(rv 0).v= .slice (some ⟨G,0,none⟩) n0 c0){v':Value}{m:Nat}{cs:List Value}{ys:List Int}(hg:w.grownBy w2 (rv 9).v.ownBlock)(ho:w2.ownsRow Bd (kT 9) (kS 9) v' ((rv 9).n+m) ((rv 9).xs++cs))(hl:Loc w (rv 9).v v')
  (hm:m=ys.length) (hf:Fl anO 1 w (Fz w rv) cs ys) {K':Nat} (hK:K+m<=K'):
  ∃rv',PSt (w2.setCell ⟨G,init.length*9+4,none⟩ v') Bd p gm cm gl {s with f:= {s.f with anL:=init++[{g with ends:=g.ends++ys}]}} rv' K'/\KQ cm w (w2.setCell ⟨G,init.length*9+4,none⟩ v')/\Below Bd w (w2.setCell ⟨G,init.length*9+4,none⟩ v')/\(rv' 0).v=(rv 0).v:=by
 have ht:Tr w rv w2 (upd rv 9 ⟨v',(rv 9).n+m,(rv 9).xs++cs⟩):=Tr.row (by decide) hg hl;obtain⟨a1,a2,-,a4,a5⟩:=h.row (i:=9) (by decide) (r:=⟨v',(rv 9).n+m,(rv 9).xs++cs⟩) hg ho hl;have k0:(upd rv 9 ⟨v',(rv 9).n+m,(rv 9).xs++cs⟩) 0=rv 0:=rfl;have ho0:=a2.own 0 (by decide);rw[k0,h0] at ho0;have hn0:n0=(rv 0).n:=by obtain⟨A9,c9,e⟩:=gV (h.live.own 0 (by decide));rw[h0] at e;simp only[arf] at e;exact e.2.1
 have hos:=uh (hn0 ▸ ho0) (init.length*9+4) v';rw[hn0] at h0;have hown0:(Value.slice (some ⟨G,0,none⟩) (rv 0).n c0).ownBlock=some G:=rfl;have hg2:w2.grownBy (w2.setCell ⟨G,init.length*9+4,none⟩ v') ((upd rv 9 ⟨v',(rv 9).n+m,(rv 9).xs++cs⟩) 0).v.ownBlock:=by rw[k0,h0,hown0];exact dF w2 ⟨G,_,none⟩ v'
 rw[<-h0] at hos;have hl2:Loc w2 ((upd rv 9 ⟨v',(rv 9).n+m,(rv 9).xs++cs⟩) 0).v (rv 0).v:= .inl rfl;have b2:=a2.row (i:=0) (by decide) (r:=⟨(rv 0).v,(rv 0).n,(rv 0).xs.set (init.length*9+4) v'⟩) hg2 hos hl2;have ht2:Tr w2 (upd rv 9 ⟨v',(rv 9).n+m,(rv 9).xs++cs⟩) (w2.setCell ⟨G,init.length*9+4,none⟩ v') (upd (upd rv 9 ⟨v',(rv 9).n+m,(rv 9).xs++cs⟩) 0 ⟨(rv 0).v,(rv 0).n,(rv 0).xs.set (init.length*9+4) v'⟩):=Tr.row (by decide) hg2 hl2;have f2:=(h.fnt.tr ht).tr' ht2;have zi:G≠p:=fun e=>by
  obtain⟨cur,hb⟩:=bC (h.live.own 0 (by decide)) (g:=G) (by rw[h0];rfl);subst e;have:=(bY hb h.par).1
  revert this
  decide
 have qN:∀b es c,w2.heap[b]? =some (Obj.map es c)->b≠G:=fun b es c hb e=>by
  subst e;obtain⟨cur,hk⟩:=bC ho0 (g:=b) rfl;unfold Bk at hk;rw[hb] at hk;cases hk
 obtain⟨e1,c1,m1⟩:=a4.isMap;obtain⟨ff,q1,q2⟩:=a5;obtain⟨e2,c2,m2⟩:=q1.isMap;refine⟨upd (upd rv 9 ⟨v',(rv 9).n+m,(rv 9).xs++cs⟩) 0 ⟨(rv 0).v,(rv 0).n,(rv 0).xs.set (init.length*9+4) v'⟩,?_,?_,?_,rfl⟩
 ·refine {par:= ?_,live:=b2,fnt:=⟨f2.unit,?_,f2.chr,f2.lks,f2.fts,f2.axs,f2.rgs,f2.fns,f2.cvt⟩,gmp:=a4.keep (Below.heap_setCell _ _ _ _ (qN _ _ _ m1)),glI:=h.glI,cls:=aoF.tr ⟨ff,q1,q2⟩ ht2 (Below.heap_setCell _ _ _ _ (qN _ _ _ m2)),few:=gz (gz h.few (nt (aqA _ _) hK) (nt (aqF (h.few 9 (by decide)) m) hK)) (ag _) (nt (h.few 0 (by decide)) (nt (aqA _ _) hK)),low:=h.low}
  ·exact Bk.far a1 (fun e=>zi e.symm) _
  obtain⟨g1,g2⟩:=h.fnt.gly;refine⟨by show(rv 0).n=_;rw[g1,hs];simp,.inr ?_⟩;rcases g2 with⟨e,_⟩|⟨init',g',ci,e1,e2,h3,h4,h5,h6,h7,h8,h9,h10⟩
  ·rw[hs] at e;simp at e
  rw[hs] at e1;obtain⟨rfl,e1⟩:=List.append_inj' e1 rfl;obtain rfl:g=g':=by simpa using e1
  refine⟨init,_,ci,rfl,?_,h3,ht2.fl anS.ok (ht.fl anS.ok h4),(h5.tr PtR.ok ht).tr PtR.ok ht2,((h6.tr anO.ok ht).app rfl hm (ht.fl anO.ok hf)).tr anO.ok ht2,(h7.tr aog.ok ht).tr aog.ok ht2,(h8.tr an2.ok ht).tr an2.ok ht2,(h9.tr an6.ok ht).tr an6.ok ht2,(h10.tr an5.ok ht).tr an5.ok ht2⟩;show(rv 0).xs.set (init.length*9+4) v'=_;rw[e2,qE ci _ 4 _ _ h4.1];rfl
 ·exact(KQ.live h.live (i:=9) (by decide) hg).trans (KQ.live a2 (i:=0) (by decide) hg2)
 refine((aqk Bd w).grown hg h.size (fun g e=>((h.live.own 9 (by decide)).lt g e).1)).setCell ?_ _;exact((h.live.own 0 (by decide)).lt G (by rw[h0];rfl)).1
theorem PSt.apr (h:PSt w Bd p gm cm gl s rv K){init:List anP}{g:anP}(hs:s.f.anL=init++[g]){G n0 c0:Nat}(h0:(rv 0).v= .slice (some ⟨G,0,none⟩) n0 c0){v':Value}{m:Nat}{cs:List Value}{ys:List Part}(hg:w.grownBy w2 (rv 10).v.ownBlock)(ho:w2.ownsRow Bd (kT 10) (kS 10) v' ((rv 10).n+m) ((rv 10).xs++cs))(hl:Loc w (rv 10).v v')
  (hm:m=ys.length) (hf:Fl aog 3 w (Fz w rv) cs ys) {K':Nat} (hK:K+m<=K'):
  ∃rv',PSt (w2.setCell ⟨G,init.length*9+5,none⟩ v') Bd p gm cm gl {s with f:= {s.f with anL:=init++[{g with parts:=g.parts++ys}]}} rv' K'/\KQ cm w (w2.setCell ⟨G,init.length*9+5,none⟩ v')/\Below Bd w (w2.setCell ⟨G,init.length*9+5,none⟩ v')/\(rv' 0).v=(rv 0).v:=by
 have ht:Tr w rv w2 (upd rv 10 ⟨v',(rv 10).n+m,(rv 10).xs++cs⟩):=Tr.row (by decide) hg hl;obtain⟨a1,a2,-,a4,a5⟩:=h.row (i:=10) (by decide) (r:=⟨v',(rv 10).n+m,(rv 10).xs++cs⟩) hg ho hl;have k0:(upd rv 10 ⟨v',(rv 10).n+m,(rv 10).xs++cs⟩) 0=rv 0:=rfl;have ho0:=a2.own 0 (by decide);rw[k0,h0] at ho0;have hn0:n0=(rv 0).n:=by obtain⟨A9,c9,e⟩:=gV (h.live.own 0 (by decide));rw[h0] at e;simp only[arf] at e;exact e.2.1
 have hos:=uh (hn0 ▸ ho0) (init.length*9+5) v';rw[hn0] at h0;have hown0:(Value.slice (some ⟨G,0,none⟩) (rv 0).n c0).ownBlock=some G:=rfl;have hg2:w2.grownBy (w2.setCell ⟨G,init.length*9+5,none⟩ v') ((upd rv 10 ⟨v',(rv 10).n+m,(rv 10).xs++cs⟩) 0).v.ownBlock:=by rw[k0,h0,hown0];exact dF w2 ⟨G,_,none⟩ v'
 rw[<-h0] at hos;have hl2:Loc w2 ((upd rv 10 ⟨v',(rv 10).n+m,(rv 10).xs++cs⟩) 0).v (rv 0).v:= .inl rfl;have b2:=a2.row (i:=0) (by decide) (r:=⟨(rv 0).v,(rv 0).n,(rv 0).xs.set (init.length*9+5) v'⟩) hg2 hos hl2;have ht2:Tr w2 (upd rv 10 ⟨v',(rv 10).n+m,(rv 10).xs++cs⟩) (w2.setCell ⟨G,init.length*9+5,none⟩ v') (upd (upd rv 10 ⟨v',(rv 10).n+m,(rv 10).xs++cs⟩) 0 ⟨(rv 0).v,(rv 0).n,(rv 0).xs.set (init.length*9+5) v'⟩):=Tr.row (by decide) hg2 hl2;have f2:=(h.fnt.tr ht).tr' ht2;have zi:G≠p:=fun e=>by
  obtain⟨cur,hb⟩:=bC (h.live.own 0 (by decide)) (g:=G) (by rw[h0];rfl);subst e;have:=(bY hb h.par).1
  revert this
  decide
 have qN:∀b es c,w2.heap[b]? =some (Obj.map es c)->b≠G:=fun b es c hb e=>by
  subst e;obtain⟨cur,hk⟩:=bC ho0 (g:=b) rfl;unfold Bk at hk;rw[hb] at hk;cases hk
 obtain⟨e1,c1,m1⟩:=a4.isMap;obtain⟨ff,q1,q2⟩:=a5;obtain⟨e2,c2,m2⟩:=q1.isMap;refine⟨upd (upd rv 10 ⟨v',(rv 10).n+m,(rv 10).xs++cs⟩) 0 ⟨(rv 0).v,(rv 0).n,(rv 0).xs.set (init.length*9+5) v'⟩,?_,?_,?_,rfl⟩
 ·refine {par:= ?_,live:=b2,fnt:=⟨f2.unit,?_,f2.chr,f2.lks,f2.fts,f2.axs,f2.rgs,f2.fns,f2.cvt⟩,gmp:=a4.keep (Below.heap_setCell _ _ _ _ (qN _ _ _ m1)),glI:=h.glI,cls:=aoF.tr ⟨ff,q1,q2⟩ ht2 (Below.heap_setCell _ _ _ _ (qN _ _ _ m2)),few:=gz (gz h.few (nt (aqA _ _) hK) (nt (aqF (h.few 10 (by decide)) m) hK)) (ag _) (nt (h.few 0 (by decide)) (nt (aqA _ _) hK)),low:=h.low}
  ·exact Bk.far a1 (fun e=>zi e.symm) _
  obtain⟨g1,g2⟩:=h.fnt.gly;refine⟨by show(rv 0).n=_;rw[g1,hs];simp,.inr ?_⟩;rcases g2 with⟨e,_⟩|⟨init',g',ci,e1,e2,h3,h4,h5,h6,h7,h8,h9,h10⟩
  ·rw[hs] at e;simp at e
  rw[hs] at e1;obtain⟨rfl,e1⟩:=List.append_inj' e1 rfl;obtain rfl:g=g':=by simpa using e1
  refine⟨init,_,ci,rfl,?_,h3,ht2.fl anS.ok (ht.fl anS.ok h4),(h5.tr PtR.ok ht).tr PtR.ok ht2,(h6.tr anO.ok ht).tr anO.ok ht2,((h7.tr aog.ok ht).app rfl hm (ht.fl aog.ok hf)).tr aog.ok ht2,(h8.tr an2.ok ht).tr an2.ok ht2,(h9.tr an6.ok ht).tr an6.ok ht2,(h10.tr an5.ok ht).tr an5.ok ht2⟩;show(rv 0).xs.set (init.length*9+5) v'=_;rw[e2,qE ci _ 5 _ _ h4.1];rfl
 ·exact(KQ.live h.live (i:=10) (by decide) hg).trans (KQ.live a2 (i:=0) (by decide) hg2)
 refine((aqk Bd w).grown hg h.size (fun g e=>((h.live.own 10 (by decide)).lt g e).1)).setCell ?_ _;exact((h.live.own 0 (by decide)).lt G (by rw[h0];rfl)).1
theorem PSt.apB (h:PSt w Bd p gm cm gl s rv K){init:List anP}{g:anP}(hs:s.f.anL=init++[g]){G n0 c0:Nat}(h0:(rv 0).v= .slice (some ⟨G,0,none⟩) n0 c0){v':Value}{m:Nat}{cs:List Value}{ys:List an8}(hg:w.grownBy w2 (rv 11).v.ownBlock)(ho:w2.ownsRow Bd (kT 11) (kS 11) v' ((rv 11).n+m) ((rv 11).xs++cs))(hl:Loc w (rv 11).v v')
  (hm:m=ys.length) (hf:Fl an2 4 w (Fz w rv) cs ys) {K':Nat} (hK:K+m<=K'):
  ∃rv',PSt (w2.setCell ⟨G,init.length*9+6,none⟩ v') Bd p gm cm gl {s with f:= {s.f with anL:=init++[{g with anchors:=g.anchors++ys}]}} rv' K'/\KQ cm w (w2.setCell ⟨G,init.length*9+6,none⟩ v')/\Below Bd w (w2.setCell ⟨G,init.length*9+6,none⟩ v')/\(rv' 0).v=(rv 0).v:=by
 have ht:Tr w rv w2 (upd rv 11 ⟨v',(rv 11).n+m,(rv 11).xs++cs⟩):=Tr.row (by decide) hg hl;obtain⟨a1,a2,-,a4,a5⟩:=h.row (i:=11) (by decide) (r:=⟨v',(rv 11).n+m,(rv 11).xs++cs⟩) hg ho hl;have k0:(upd rv 11 ⟨v',(rv 11).n+m,(rv 11).xs++cs⟩) 0=rv 0:=rfl;have ho0:=a2.own 0 (by decide);rw[k0,h0] at ho0;have hn0:n0=(rv 0).n:=by obtain⟨A9,c9,e⟩:=gV (h.live.own 0 (by decide));rw[h0] at e;simp only[arf] at e;exact e.2.1
 have hos:=uh (hn0 ▸ ho0) (init.length*9+6) v';rw[hn0] at h0;have hown0:(Value.slice (some ⟨G,0,none⟩) (rv 0).n c0).ownBlock=some G:=rfl;have hg2:w2.grownBy (w2.setCell ⟨G,init.length*9+6,none⟩ v') ((upd rv 11 ⟨v',(rv 11).n+m,(rv 11).xs++cs⟩) 0).v.ownBlock:=by rw[k0,h0,hown0];exact dF w2 ⟨G,_,none⟩ v'
 rw[<-h0] at hos;have hl2:Loc w2 ((upd rv 11 ⟨v',(rv 11).n+m,(rv 11).xs++cs⟩) 0).v (rv 0).v:= .inl rfl;have b2:=a2.row (i:=0) (by decide) (r:=⟨(rv 0).v,(rv 0).n,(rv 0).xs.set (init.length*9+6) v'⟩) hg2 hos hl2;have ht2:Tr w2 (upd rv 11 ⟨v',(rv 11).n+m,(rv 11).xs++cs⟩) (w2.setCell ⟨G,init.length*9+6,none⟩ v') (upd (upd rv 11 ⟨v',(rv 11).n+m,(rv 11).xs++cs⟩) 0 ⟨(rv 0).v,(rv 0).n,(rv 0).xs.set (init.length*9+6) v'⟩):=Tr.row (by decide) hg2 hl2;have f2:=(h.fnt.tr ht).tr' ht2;have zi:G≠p:=fun e=>by
  obtain⟨cur,hb⟩:=bC (h.live.own 0 (by decide)) (g:=G) (by rw[h0];rfl);subst e;have:=(bY hb h.par).1
  revert this
  decide
 have qN:∀b es c,w2.heap[b]? =some (Obj.map es c)->b≠G:=fun b es c hb e=>by
  subst e;obtain⟨cur,hk⟩:=bC ho0 (g:=b) rfl;unfold Bk at hk;rw[hb] at hk;cases hk
 obtain⟨e1,c1,m1⟩:=a4.isMap;obtain⟨ff,q1,q2⟩:=a5;obtain⟨e2,c2,m2⟩:=q1.isMap;refine⟨upd (upd rv 11 ⟨v',(rv 11).n+m,(rv 11).xs++cs⟩) 0 ⟨(rv 0).v,(rv 0).n,(rv 0).xs.set (init.length*9+6) v'⟩,?_,?_,?_,rfl⟩
 ·refine {par:= ?_,live:=b2,fnt:=⟨f2.unit,?_,f2.chr,f2.lks,f2.fts,f2.axs,f2.rgs,f2.fns,f2.cvt⟩,gmp:=a4.keep (Below.heap_setCell _ _ _ _ (qN _ _ _ m1)),glI:=h.glI,cls:=aoF.tr ⟨ff,q1,q2⟩ ht2 (Below.heap_setCell _ _ _ _ (qN _ _ _ m2)),few:=gz (gz h.few (nt (aqA _ _) hK) (nt (aqF (h.few 11 (by decide)) m) hK)) (ag _) (nt (h.few 0 (by decide)) (nt (aqA _ _) hK)),low:=h.low}
  ·exact Bk.far a1 (fun e=>zi e.symm) _
  obtain⟨g1,g2⟩:=h.fnt.gly;refine⟨by show(rv 0).n=_;rw[g1,hs];simp,.inr ?_⟩;rcases g2 with⟨e,_⟩|⟨init',g',ci,e1,e2,h3,h4,h5,h6,h7,h8,h9,h10⟩
  ·rw[hs] at e;simp at e
  rw[hs] at e1;obtain⟨rfl,e1⟩:=List.append_inj' e1 rfl;obtain rfl:g=g':=by simpa using e1
  refine⟨init,_,ci,rfl,?_,h3,ht2.fl anS.ok (ht.fl anS.ok h4),(h5.tr PtR.ok ht).tr PtR.ok ht2,(h6.tr anO.ok ht).tr anO.ok ht2,(h7.tr aog.ok ht).tr aog.ok ht2,((h8.tr an2.ok ht).app rfl hm (ht.fl an2.ok hf)).tr an2.ok ht2,(h9.tr an6.ok ht).tr an6.ok ht2,(h10.tr an5.ok ht).tr an5.ok ht2⟩;show(rv 0).xs.set (init.length*9+6) v'=_;rw[e2,qE ci _ 6 _ _ h4.1];rfl
 ·exact(KQ.live h.live (i:=11) (by decide) hg).trans (KQ.live a2 (i:=0) (by decide) hg2)
 refine((aqk Bd w).grown hg h.size (fun g e=>((h.live.own 11 (by decide)).lt g e).1)).setCell ?_ _;exact((h.live.own 0 (by decide)).lt G (by rw[h0];rfl)).1
theorem PSt.apD (h:PSt w Bd p gm cm gl s rv K){init:List anP}{g:anP}(hs:s.f.anL=init++[g]){G n0 c0:Nat}(h0:(rv 0).v= .slice (some ⟨G,0,none⟩) n0 c0){v':Value}{m:Nat}{cs:List Value}{ys:List Delta}(hg:w.grownBy w2 (rv 12).v.ownBlock)(ho:w2.ownsRow Bd (kT 12) (kS 12) v' ((rv 12).n+m) ((rv 12).xs++cs))(hl:Loc w (rv 12).v v')
  (hm:m=ys.length) (hf:Fl an6 4 w (Fz w rv) cs ys) {K':Nat} (hK:K+m<=K'):
  ∃rv',PSt (w2.setCell ⟨G,init.length*9+7,none⟩ v') Bd p gm cm gl {s with f:= {s.f with anL:=init++[{g with deltas:=g.deltas++ys}]}} rv' K'/\KQ cm w (w2.setCell ⟨G,init.length*9+7,none⟩ v')/\Below Bd w (w2.setCell ⟨G,init.length*9+7,none⟩ v')/\(rv' 0).v=(rv 0).v:=by
 have ht:Tr w rv w2 (upd rv 12 ⟨v',(rv 12).n+m,(rv 12).xs++cs⟩):=Tr.row (by decide) hg hl;obtain⟨a1,a2,-,a4,a5⟩:=h.row (i:=12) (by decide) (r:=⟨v',(rv 12).n+m,(rv 12).xs++cs⟩) hg ho hl;have k0:(upd rv 12 ⟨v',(rv 12).n+m,(rv 12).xs++cs⟩) 0=rv 0:=rfl;have ho0:=a2.own 0 (by decide);rw[k0,h0] at ho0;have hn0:n0=(rv 0).n:=by obtain⟨A9,c9,e⟩:=gV (h.live.own 0 (by decide));rw[h0] at e;simp only[arf] at e;exact e.2.1
 have hos:=uh (hn0 ▸ ho0) (init.length*9+7) v';rw[hn0] at h0;have hown0:(Value.slice (some ⟨G,0,none⟩) (rv 0).n c0).ownBlock=some G:=rfl;have hg2:w2.grownBy (w2.setCell ⟨G,init.length*9+7,none⟩ v') ((upd rv 12 ⟨v',(rv 12).n+m,(rv 12).xs++cs⟩) 0).v.ownBlock:=by rw[k0,h0,hown0];exact dF w2 ⟨G,_,none⟩ v'
 rw[<-h0] at hos;have hl2:Loc w2 ((upd rv 12 ⟨v',(rv 12).n+m,(rv 12).xs++cs⟩) 0).v (rv 0).v:= .inl rfl;have b2:=a2.row (i:=0) (by decide) (r:=⟨(rv 0).v,(rv 0).n,(rv 0).xs.set (init.length*9+7) v'⟩) hg2 hos hl2;have ht2:Tr w2 (upd rv 12 ⟨v',(rv 12).n+m,(rv 12).xs++cs⟩) (w2.setCell ⟨G,init.length*9+7,none⟩ v') (upd (upd rv 12 ⟨v',(rv 12).n+m,(rv 12).xs++cs⟩) 0 ⟨(rv 0).v,(rv 0).n,(rv 0).xs.set (init.length*9+7) v'⟩):=Tr.row (by decide) hg2 hl2;have f2:=(h.fnt.tr ht).tr' ht2;have zi:G≠p:=fun e=>by
  obtain⟨cur,hb⟩:=bC (h.live.own 0 (by decide)) (g:=G) (by rw[h0];rfl);subst e;have:=(bY hb h.par).1
  revert this
  decide
 have qN:∀b es c,w2.heap[b]? =some (Obj.map es c)->b≠G:=fun b es c hb e=>by
  subst e;obtain⟨cur,hk⟩:=bC ho0 (g:=b) rfl;unfold Bk at hk;rw[hb] at hk;cases hk
 obtain⟨e1,c1,m1⟩:=a4.isMap;obtain⟨ff,q1,q2⟩:=a5;obtain⟨e2,c2,m2⟩:=q1.isMap;refine⟨upd (upd rv 12 ⟨v',(rv 12).n+m,(rv 12).xs++cs⟩) 0 ⟨(rv 0).v,(rv 0).n,(rv 0).xs.set (init.length*9+7) v'⟩,?_,?_,?_,rfl⟩
 ·refine {par:= ?_,live:=b2,fnt:=⟨f2.unit,?_,f2.chr,f2.lks,f2.fts,f2.axs,f2.rgs,f2.fns,f2.cvt⟩,gmp:=a4.keep (Below.heap_setCell _ _ _ _ (qN _ _ _ m1)),glI:=h.glI,cls:=aoF.tr ⟨ff,q1,q2⟩ ht2 (Below.heap_setCell _ _ _ _ (qN _ _ _ m2)),few:=gz (gz h.few (nt (aqA _ _) hK) (nt (aqF (h.few 12 (by decide)) m) hK)) (ag _) (nt (h.few 0 (by decide)) (nt (aqA _ _) hK)),low:=h.low}
  ·exact Bk.far a1 (fun e=>zi e.symm) _
  obtain⟨g1,g2⟩:=h.fnt.gly;refine⟨by show(rv 0).n=_;rw[g1,hs];simp,.inr ?_⟩;rcases g2 with⟨e,_⟩|⟨init',g',ci,e1,e2,h3,h4,h5,h6,h7,h8,h9,h10⟩
  ·rw[hs] at e;simp at e
  rw[hs] at e1;obtain⟨rfl,e1⟩:=List.append_inj' e1 rfl;obtain rfl:g=g':=by simpa using e1
  refine⟨init,_,ci,rfl,?_,h3,ht2.fl anS.ok (ht.fl anS.ok h4),(h5.tr PtR.ok ht).tr PtR.ok ht2,(h6.tr anO.ok ht).tr anO.ok ht2,(h7.tr aog.ok ht).tr aog.ok ht2,(h8.tr an2.ok ht).tr an2.ok ht2,((h9.tr an6.ok ht).app rfl hm (ht.fl an6.ok hf)).tr an6.ok ht2,(h10.tr an5.ok ht).tr an5.ok ht2⟩;show(rv 0).xs.set (init.length*9+7) v'=_;rw[e2,qE ci _ 7 _ _ h4.1];rfl
 ·exact(KQ.live h.live (i:=12) (by decide) hg).trans (KQ.live a2 (i:=0) (by decide) hg2)
 refine((aqk Bd w).grown hg h.size (fun g e=>((h.live.own 12 (by decide)).lt g e).1)).setCell ?_ _;exact((h.live.own 0 (by decide)).lt G (by rw[h0];rfl)).1
theorem PSt.apw (h:PSt w Bd p gm cm gl s rv K){init:List anP}{g:anP}(hs:s.f.anL=init++[g]){G n0 c0:Nat}(h0:(rv 0).v= .slice (some ⟨G,0,none⟩) n0 c0){v':Value}{m:Nat}{cs:List Value}{ys:List Ins}(hg:w.grownBy w2 (rv 13).v.ownBlock)(ho:w2.ownsRow Bd (kT 13) (kS 13) v' ((rv 13).n+m) ((rv 13).xs++cs))(hl:Loc w (rv 13).v v')
  (hm:m=ys.length) (hf:Fl an5 2 w (Fz w rv) cs ys) {K':Nat} (hK:K+m<=K'):
  ∃rv',PSt (w2.setCell ⟨G,init.length*9+8,none⟩ v') Bd p gm cm gl {s with f:= {s.f with anL:=init++[{g with hint:=g.hint++ys}]}} rv' K'/\KQ cm w (w2.setCell ⟨G,init.length*9+8,none⟩ v')/\Below Bd w (w2.setCell ⟨G,init.length*9+8,none⟩ v')/\(rv' 0).v=(rv 0).v:=by
 have ht:Tr w rv w2 (upd rv 13 ⟨v',(rv 13).n+m,(rv 13).xs++cs⟩):=Tr.row (by decide) hg hl;obtain⟨a1,a2,-,a4,a5⟩:=h.row (i:=13) (by decide) (r:=⟨v',(rv 13).n+m,(rv 13).xs++cs⟩) hg ho hl;have k0:(upd rv 13 ⟨v',(rv 13).n+m,(rv 13).xs++cs⟩) 0=rv 0:=rfl;have ho0:=a2.own 0 (by decide);rw[k0,h0] at ho0;have hn0:n0=(rv 0).n:=by obtain⟨A9,c9,e⟩:=gV (h.live.own 0 (by decide));rw[h0] at e;simp only[arf] at e;exact e.2.1
 have hos:=uh (hn0 ▸ ho0) (init.length*9+8) v';rw[hn0] at h0;have hown0:(Value.slice (some ⟨G,0,none⟩) (rv 0).n c0).ownBlock=some G:=rfl;have hg2:w2.grownBy (w2.setCell ⟨G,init.length*9+8,none⟩ v') ((upd rv 13 ⟨v',(rv 13).n+m,(rv 13).xs++cs⟩) 0).v.ownBlock:=by rw[k0,h0,hown0];exact dF w2 ⟨G,_,none⟩ v'
 rw[<-h0] at hos;have hl2:Loc w2 ((upd rv 13 ⟨v',(rv 13).n+m,(rv 13).xs++cs⟩) 0).v (rv 0).v:= .inl rfl;have b2:=a2.row (i:=0) (by decide) (r:=⟨(rv 0).v,(rv 0).n,(rv 0).xs.set (init.length*9+8) v'⟩) hg2 hos hl2;have ht2:Tr w2 (upd rv 13 ⟨v',(rv 13).n+m,(rv 13).xs++cs⟩) (w2.setCell ⟨G,init.length*9+8,none⟩ v') (upd (upd rv 13 ⟨v',(rv 13).n+m,(rv 13).xs++cs⟩) 0 ⟨(rv 0).v,(rv 0).n,(rv 0).xs.set (init.length*9+8) v'⟩):=Tr.row (by decide) hg2 hl2;have f2:=(h.fnt.tr ht).tr' ht2;have zi:G≠p:=fun e=>by
  obtain⟨cur,hb⟩:=bC (h.live.own 0 (by decide)) (g:=G) (by rw[h0];rfl);subst e;have:=(bY hb h.par).1
  revert this
  decide
 have qN:∀b es c,w2.heap[b]? =some (Obj.map es c)->b≠G:=fun b es c hb e=>by
  subst e;obtain⟨cur,hk⟩:=bC ho0 (g:=b) rfl;unfold Bk at hk;rw[hb] at hk;cases hk
 obtain⟨e1,c1,m1⟩:=a4.isMap;obtain⟨ff,q1,q2⟩:=a5;obtain⟨e2,c2,m2⟩:=q1.isMap;refine⟨upd (upd rv 13 ⟨v',(rv 13).n+m,(rv 13).xs++cs⟩) 0 ⟨(rv 0).v,(rv 0).n,(rv 0).xs.set (init.length*9+8) v'⟩,?_,?_,?_,rfl⟩
 ·refine {par:= ?_,live:=b2,fnt:=⟨f2.unit,?_,f2.chr,f2.lks,f2.fts,f2.axs,f2.rgs,f2.fns,f2.cvt⟩,gmp:=a4.keep (Below.heap_setCell _ _ _ _ (qN _ _ _ m1)),glI:=h.glI,cls:=aoF.tr ⟨ff,q1,q2⟩ ht2 (Below.heap_setCell _ _ _ _ (qN _ _ _ m2)),few:=gz (gz h.few (nt (aqA _ _) hK) (nt (aqF (h.few 13 (by decide)) m) hK)) (ag _) (nt (h.few 0 (by decide)) (nt (aqA _ _) hK)),low:=h.low}
  ·exact Bk.far a1 (fun e=>zi e.symm) _
  obtain⟨g1,g2⟩:=h.fnt.gly;refine⟨by show(rv 0).n=_;rw[g1,hs];simp,.inr ?_⟩;rcases g2 with⟨e,_⟩|⟨init',g',ci,e1,e2,h3,h4,h5,h6,h7,h8,h9,h10⟩
  ·rw[hs] at e;simp at e
  rw[hs] at e1;obtain⟨rfl,e1⟩:=List.append_inj' e1 rfl;obtain rfl:g=g':=by simpa using e1
  refine⟨init,_,ci,rfl,?_,h3,ht2.fl anS.ok (ht.fl anS.ok h4),(h5.tr PtR.ok ht).tr PtR.ok ht2,(h6.tr anO.ok ht).tr anO.ok ht2,(h7.tr aog.ok ht).tr aog.ok ht2,(h8.tr an2.ok ht).tr an2.ok ht2,(h9.tr an6.ok ht).tr an6.ok ht2,((h10.tr an5.ok ht).app rfl hm (ht.fl an5.ok hf)).tr an5.ok ht2⟩;show(rv 0).xs.set (init.length*9+8) v'=_;rw[e2,qE ci _ 8 _ _ h4.1];rfl
 ·exact(KQ.live h.live (i:=13) (by decide) hg).trans (KQ.live a2 (i:=0) (by decide) hg2)
 refine((aqk Bd w).grown hg h.size (fun g e=>((h.live.own 13 (by decide)).lt g e).1)).setCell ?_ _;exact((h.live.own 0 (by decide)).lt G (by rw[h0];rfl)).1
end
end
section
attribute [-go_sem] Builtin.append_
theorem BV (w:World)(S:Bs)(l:List Int)(h:∀x∈l,I64 x):Fl anO 1 w S (aP l) l:=by
 induction l with
 |nil=>exact Fl.nil
 |cons x r ih=>exact(Fl.one (R:=anO) (cs:=[.int .i64 x]) ⟨rfl,h x (by simp)⟩ rfl).append (ih (fun y hy=>h y (by simp[hy])))
theorem EZ (l:List B):∀x∈l.map aI,I64 x:=by intro x hx;rw[aqQ] at hx;obtain⟨t,_,rfl⟩:=hx;exact dI t
theorem aok.below {w w':World}{A:Option Addr}{n:Nat}{ws:List P3}(h:aok w A n ws)(hb:Below w.heap.size w w'):aok w' A n ws:=⟨h.rd.below hb,h.len,h.few⟩
theorem Xq (w:World)(Bd p gm cm:Nat)(gl:Gl)(s:PS)(rv:Rows)(K:Nat)(A:Option Addr)(n c:Nat)(ws:List P3)(t:B)(l:List B)(hP:PSt w Bd p gm cm gl s rv K)(hL:aok w A n ws)(hT:ah ws=t::l)(hK:K<=10000000000)(hc:n<=c):
  Calls Tryz.prog 76 #[.pointer (some ⟨p,0,none⟩),.slice A n c] w (anQ w Bd p gm cm gl (K+n) (Cc s l)):=by
 have hn:n=l.length+1:=by rw[<-hL.length];exact dG hT
 have hB:=hP.size;have HP:=hd0 hP;have hpb:p<w.heap.size:=hP.par.lt;obtain⟨A0,c0,hv⟩:=hP.slice (i:=7) (by decide);have kp:w.cell? ⟨p,8,none⟩=some (rv 7).v:=hP.par.cell 8;rw[hv] at kp;have fp:=hP.par.frozen 8;have hfew:=hP.few 7 (by decide);have HR:Hid (Cc s l=fin (fB 0 l) {s with f:= {s.f with cvt:=s.f.cvt++l.map aI}}):=rfl;obtain⟨A',hsub,hrd,hlen⟩:=hL.sub hc 1 1 rfl (by omega);have hns:=hd0 (fun w1 rb (hr:Rdr w1 rb p 0) (hb:Below w.heap.size w w1)=>vM w1 rb p 0 A' (n - 1) (c - 1) (ws.drop 1) hr (hrd.below hb) hlen (by have:=hL.few;omega));rw[jF hT] at hns;have hll:l.length=n - 1:=by omega
 have hnn:=hL.few;have hfl:=hd0 (fun(w:World) S=>BV w S (l.map aI) (EZ l));have hlm:Hid (n - 1=(l.map aI).length):=by show _=_;simp[hll]
 clear hP hL hT hrd hlen hll hn;go_enter Tryz.func76,Tryz.ntmps76
 go_wp2_with fail
 refine(gu w p).mono ?_;rintro e w1 ⟨rfl,hr1,hb1⟩;have k1:w1.cell? ⟨p,8,none⟩=some (.slice A0 (rv 7).n c0):=((af hb1).1 _ _ hpb).trans kp;have hz1:=hb1.size;have kW:=hd0 hr1;have Hb1:=hd0 hb1;clear hr1 hb1;go_wp2_with fail
 have k1d:w1.drew.cell? ⟨p,8,none⟩=some (.slice A0 (rv 7).n c0):=k1
 go_region_with (go_at_call 124;refine(hns.out _ _ (by exact kW.out) (by exact Hb1.out.drew)).mono ?_;rintro e w2 ⟨v,rfl,A4,c4,rfl,iZ,hr4,hg4⟩;have hb2:=bz Hb1.out.drew hg4 (ag _);have aO:=HP.out.below hb2;have hown:=aO.live.own 7 (by decide);rw[hv] at hown;have Dv:=(kH iZ).rd;obtain⟨A5,c5,w9,hrun,aZ,aB,bD⟩:=EY iO 22 w2 Bd _ c0 A0 _ _ A4 (n - 1) c4 _ hown Dv (ut _) (by omega) aO.size;have k2:w2.cell? ⟨p,8,none⟩=some (.slice A0 (rv 7).n c0):=((af hb2).1 _ _ hpb).trans kp;rw[<-hv] at aB bD;have bT:Bk w9 p jq (dW s rv gm cm):=(aO.row (i:=7) (by decide) (r:=⟨.slice A5 ((rv 7).n+(n - 1)) c5,_,_⟩) aB aZ bD).1;have jB:=Bk.grown hr4 aB (aO.live.own 7 (by decide)) (by decide);have x9:w9.cell? ⟨p,8,none⟩=some (rv 7).v:=bT.cell 8;have y9:=bT.frozen 8;have z9:w9.cell? ⟨w.heap.size,1,none⟩=some (.int .i64 (fB 0 l)):=jB.cell 1;have bP:=hd0 (PSt.apu (m:=n - 1) (K':=K+n) aO aB aZ bD hlm.out (hfl.out _ _) (by omega));have ik:=hd0 ((hb2.mono hB).trans (aO.aoB (i:=7) (by decide) aB 8 (.slice A5 ((rv 7).n+(n - 1)) c5) aO.size));have HQ:=hd0 (KQ.below (cm:=cm) hb2);clear hown aZ aB bD bT jB aO hb2 iZ hr4 hg4 Dv)
 all_goals
  go_wp2;go_ret
  exact anQ.fin HR.out ik.out (HQ.out.trans bP.out.2) bP.out.1
end
end Go.Proofs.YtkijckccfookeaaGreatDoor
