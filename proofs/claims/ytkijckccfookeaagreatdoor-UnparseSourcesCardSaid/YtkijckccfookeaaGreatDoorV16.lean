/- Lemmas. -/
import Derived.Test.YtkijckccfookeaaGreatDoorV15
set_option linter.unusedVariables false
set_option linter.unusedSimpArgs false
set_option maxRecDepth 100000
set_option maxHeartbeats 32000000
namespace Go.Proofs.YtkijckccfookeaaGreatDoor
open Go.RowKit
section
theorem FD.tr' {w w':World}{rv EC rv':Rows}{f:Fnt}(h:FD w (Fz w EC) rv f)(t:Tr w EC w' rv'):FD w' (Fz w' rv') rv f:=⟨h.unit,h.gly.tr t,h.chr.tr ait.ok t,h.lks.tr t,h.fts.tr ah2.ok t,h.axs.tr aij.ok t,h.rgs.tr ah7.ok t,h.fns.tr aih.ok t,h.cvt.tr ahT.ok t⟩
section
variable {w w2:World} {Bd p gm cm:Nat} {gl:Gl} {s:PS} {rv:Rows} {K:Nat}
theorem PSt.aiz (h:PSt w Bd p gm cm gl s rv K){init:List ahR}{g:ahR}(hs:s.f.ahO=init++[g]):
  ∃G c0 ci,(rv 0).v= .slice (some ⟨G,0,none⟩) (init.length+1) c0/\(rv 0).xs=ci++[.string ⟨g.name.toArray⟩,.int .i64 g.advance,.bool g.mark,(rv 8).v,(rv 9).v,(rv 10).v,(rv 11).v,(rv 12).v,(rv 13).v]/\ci.length=init.length*9/\G<w.heap.size/\
   (∀j,j<9->w.cell? ⟨G,init.length*9+j,none⟩=[Value.string ⟨g.name.toArray⟩,.int .i64 g.advance,.bool g.mark,(rv 8).v,(rv 9).v,(rv 10).v,(rv 11).v,(rv 12).v,(rv 13).v][j]?)/\(∀j,w.frozen? ⟨G,j,none⟩=false)/\(∃cur,Bk w G 59 cur):=by
 have hn:=h.fnt.gly.1;have ho:=h.live.own 0 (by decide);rcases h.fnt.gly.2 with⟨e,_⟩|⟨init',g',ci,e1,e2,e3,e4,-⟩
 ·rw[hs] at e;simp at e
 rw[hs] at e1;obtain⟨rfl,e1⟩:=List.append_inj' e1 rfl;obtain rfl:g=g':=by simpa using e1
 have hl:=e4.1;have hn2:(rv 0).n=init.length+1:=by rw[hn,hs];simp
 rcases ho.2 with⟨_,h2⟩|⟨G,cap,cur,h1,hb,hh,hnc,hm,hsz,htk⟩
 ·omega
 rw[hn2] at h1;refine⟨G,cap,ci,h1,e2,hl,(akp.1 hh).1,fun j hj=> ?_,fun j=>Bk.frozen hh j,⟨cur,hh⟩⟩;rw[Bk.cell hh];have hlt:init.length*9+j<(rv 0).n*kS 0:=by rw[hn2];show _<(init.length+1)*9;omega
 have:(cur.toList.take ((rv 0).n*kS 0))[init.length*9+j]? =cur.toList[init.length*9+j]? :=by rw[akP,if_pos hlt]
 rw[<-Array.getElem?_toList,<-this,htk,e2,akI (by rw[hl];omega),hl,Nat.add_sub_cancel_left]
theorem pI (ci:List Value)(k off:Nat)(l:List Value)(v:Value)(hk:ci.length=k):(ci++l).set (k+off) v=ci++l.set off v:=by subst hk;rw[List.set_append_right _ _ (by omega),Nat.add_sub_cancel_left]
theorem PSt.ajF (h:PSt w Bd p gm cm gl s rv K){init:List ahR}{g:ahR}(hs:s.f.ahO=init++[g]){G n0 c0:Nat}(h0:(rv 0).v= .slice (some ⟨G,0,none⟩) n0 c0){v':Value}{m:Nat}{cs:List Value}{ys:List Pt}(hg:w.grownBy w2 (rv 8).v.ownBlock)(ho:w2.ownsRow Bd (kT 8) (kS 8) v' ((rv 8).n+m) ((rv 8).xs++cs))(hl:Loc w (rv 8).v v')
  (hm:m=ys.length) (hf:Fl PtR 3 w (Fz w rv) cs ys) {K':Nat} (hK:K+m<=K'):
  ∃rv',PSt (w2.setCell ⟨G,init.length*9+3,none⟩ v') Bd p gm cm gl {s with f:= {s.f with ahO:=init++[{g with points:=g.points++ys}]}} rv' K'/\KQ cm w (w2.setCell ⟨G,init.length*9+3,none⟩ v')/\Below Bd w (w2.setCell ⟨G,init.length*9+3,none⟩ v')/\(rv' 0).v=(rv 0).v:=by
 have ht:Tr w rv w2 (upd rv 8 ⟨v',(rv 8).n+m,(rv 8).xs++cs⟩):=Tr.row (by decide) hg hl;obtain⟨a1,a2,-,a4,a5⟩:=h.row (i:=8) (by decide) (r:=⟨v',(rv 8).n+m,(rv 8).xs++cs⟩) hg ho hl;have k0:(upd rv 8 ⟨v',(rv 8).n+m,(rv 8).xs++cs⟩) 0=rv 0:=rfl;have ho0:=a2.own 0 (by decide);rw[k0,h0] at ho0;have hn0:n0=(rv 0).n:=by obtain⟨A9,c9,e⟩:=gX (h.live.own 0 (by decide));rw[h0] at e;simp only[alh] at e;exact e.2.1
 have hos:=rG (hn0 ▸ ho0) (init.length*9+3) v';rw[hn0] at h0;have hown0:(Value.slice (some ⟨G,0,none⟩) (rv 0).n c0).ownBlock=some G:=rfl;have hg2:w2.grownBy (w2.setCell ⟨G,init.length*9+3,none⟩ v') ((upd rv 8 ⟨v',(rv 8).n+m,(rv 8).xs++cs⟩) 0).v.ownBlock:=by rw[k0,h0,hown0];exact dC w2 ⟨G,_,none⟩ v'
 rw[<-h0] at hos;have hl2:Loc w2 ((upd rv 8 ⟨v',(rv 8).n+m,(rv 8).xs++cs⟩) 0).v (rv 0).v:= .inl rfl;have b2:=a2.row (i:=0) (by decide) (r:=⟨(rv 0).v,(rv 0).n,(rv 0).xs.set (init.length*9+3) v'⟩) hg2 hos hl2;have ht2:Tr w2 (upd rv 8 ⟨v',(rv 8).n+m,(rv 8).xs++cs⟩) (w2.setCell ⟨G,init.length*9+3,none⟩ v') (upd (upd rv 8 ⟨v',(rv 8).n+m,(rv 8).xs++cs⟩) 0 ⟨(rv 0).v,(rv 0).n,(rv 0).xs.set (init.length*9+3) v'⟩):=Tr.row (by decide) hg2 hl2;have f2:=(h.fnt.tr ht).tr' ht2;have wI:G≠p:=fun e=>by
  obtain⟨cur,hb⟩:=aV (h.live.own 0 (by decide)) (g:=G) (by rw[h0];rfl);subst e;have:=(dR hb h.par).1
  revert this
  decide
 have qc:∀b es c,w2.heap[b]? =some (Obj.map es c)->b≠G:=fun b es c hb e=>by
  subst e;obtain⟨cur,hk⟩:=aV ho0 (g:=b) rfl;unfold Bk at hk;rw[hb] at hk;cases hk
 obtain⟨e1,c1,m1⟩:=a4.isMap;obtain⟨ff,q1,q2⟩:=a5;obtain⟨e2,c2,m2⟩:=q1.isMap;refine⟨upd (upd rv 8 ⟨v',(rv 8).n+m,(rv 8).xs++cs⟩) 0 ⟨(rv 0).v,(rv 0).n,(rv 0).xs.set (init.length*9+3) v'⟩,?_,?_,?_,rfl⟩
 ·refine {par:= ?_,live:=b2,fnt:=⟨f2.unit,?_,f2.chr,f2.lks,f2.fts,f2.axs,f2.rgs,f2.fns,f2.cvt⟩,gmp:=a4.keep (Below.heap_setCell _ _ _ _ (qc _ _ _ m1)),glI:=h.glI,cls:=aiF.tr ⟨ff,q1,q2⟩ ht2 (Below.heap_setCell _ _ _ _ (qc _ _ _ m2)),few:=fU (fU h.few (nt (akA _ _) hK) (nt (akF (h.few 8 (by decide)) m) hK)) (nr _) (nt (h.few 0 (by decide)) (nt (akA _ _) hK)),low:=h.low}
  ·exact Bk.far a1 (fun e=>wI e.symm) _
  obtain⟨g1,g2⟩:=h.fnt.gly;refine⟨by show(rv 0).n=_;rw[g1,hs];simp,.inr ?_⟩;rcases g2 with⟨e,_⟩|⟨init',g',ci,e1,e2,h3,h4,h5,h6,h7,h8,h9,h10⟩
  ·rw[hs] at e;simp at e
  rw[hs] at e1;obtain⟨rfl,e1⟩:=List.append_inj' e1 rfl;obtain rfl:g=g':=by simpa using e1
  refine⟨init,_,ci,rfl,?_,h3,ht2.fl ahW.ok (ht.fl ahW.ok h4),((h5.tr PtR.ok ht).app rfl hm (ht.fl PtR.ok hf)).tr PtR.ok ht2,(h6.tr ahT.ok ht).tr ahT.ok ht2,(h7.tr ah6.ok ht).tr ah6.ok ht2,(h8.tr ahY.ok ht).tr ahY.ok ht2,(h9.tr ah3.ok ht).tr ah3.ok ht2,(h10.tr ah5.ok ht).tr ah5.ok ht2⟩;show(rv 0).xs.set (init.length*9+3) v'=_;rw[e2,pI ci _ 3 _ _ h4.1];rfl
 ·exact(KQ.live h.live (i:=8) (by decide) hg).trans (KQ.live a2 (i:=0) (by decide) hg2)
 refine((akl Bd w).grown hg h.size (fun g e=>((h.live.own 8 (by decide)).lt g e).1)).setCell ?_ _;exact((h.live.own 0 (by decide)).lt G (by rw[h0];rfl)).1
theorem PSt.ajM (h:PSt w Bd p gm cm gl s rv K){init:List ahR}{g:ahR}(hs:s.f.ahO=init++[g]){G n0 c0:Nat}(h0:(rv 0).v= .slice (some ⟨G,0,none⟩) n0 c0){v':Value}{m:Nat}{cs:List Value}{ys:List Int}(hg:w.grownBy w2 (rv 9).v.ownBlock)(ho:w2.ownsRow Bd (kT 9) (kS 9) v' ((rv 9).n+m) ((rv 9).xs++cs))(hl:Loc w (rv 9).v v')
  (hm:m=ys.length) (hf:Fl ahT 1 w (Fz w rv) cs ys) {K':Nat} (hK:K+m<=K'):
  ∃rv',PSt (w2.setCell ⟨G,init.length*9+4,none⟩ v') Bd p gm cm gl {s with f:= {s.f with ahO:=init++[{g with ends:=g.ends++ys}]}} rv' K'/\KQ cm w (w2.setCell ⟨G,init.length*9+4,none⟩ v')/\Below Bd w (w2.setCell ⟨G,init.length*9+4,none⟩ v')/\(rv' 0).v=(rv 0).v:=by
 have ht:Tr w rv w2 (upd rv 9 ⟨v',(rv 9).n+m,(rv 9).xs++cs⟩):=Tr.row (by decide) hg hl;obtain⟨a1,a2,-,a4,a5⟩:=h.row (i:=9) (by decide) (r:=⟨v',(rv 9).n+m,(rv 9).xs++cs⟩) hg ho hl;have k0:(upd rv 9 ⟨v',(rv 9).n+m,(rv 9).xs++cs⟩) 0=rv 0:=rfl;have ho0:=a2.own 0 (by decide);rw[k0,h0] at ho0;have hn0:n0=(rv 0).n:=by obtain⟨A9,c9,e⟩:=gX (h.live.own 0 (by decide));rw[h0] at e;simp only[alh] at e;exact e.2.1
 have hos:=rG (hn0 ▸ ho0) (init.length*9+4) v';rw[hn0] at h0;have hown0:(Value.slice (some ⟨G,0,none⟩) (rv 0).n c0).ownBlock=some G:=rfl;have hg2:w2.grownBy (w2.setCell ⟨G,init.length*9+4,none⟩ v') ((upd rv 9 ⟨v',(rv 9).n+m,(rv 9).xs++cs⟩) 0).v.ownBlock:=by rw[k0,h0,hown0];exact dC w2 ⟨G,_,none⟩ v'
 rw[<-h0] at hos;have hl2:Loc w2 ((upd rv 9 ⟨v',(rv 9).n+m,(rv 9).xs++cs⟩) 0).v (rv 0).v:= .inl rfl;have b2:=a2.row (i:=0) (by decide) (r:=⟨(rv 0).v,(rv 0).n,(rv 0).xs.set (init.length*9+4) v'⟩) hg2 hos hl2;have ht2:Tr w2 (upd rv 9 ⟨v',(rv 9).n+m,(rv 9).xs++cs⟩) (w2.setCell ⟨G,init.length*9+4,none⟩ v') (upd (upd rv 9 ⟨v',(rv 9).n+m,(rv 9).xs++cs⟩) 0 ⟨(rv 0).v,(rv 0).n,(rv 0).xs.set (init.length*9+4) v'⟩):=Tr.row (by decide) hg2 hl2;have f2:=(h.fnt.tr ht).tr' ht2;have wI:G≠p:=fun e=>by
  obtain⟨cur,hb⟩:=aV (h.live.own 0 (by decide)) (g:=G) (by rw[h0];rfl);subst e;have:=(dR hb h.par).1
  revert this
  decide
 have qc:∀b es c,w2.heap[b]? =some (Obj.map es c)->b≠G:=fun b es c hb e=>by
  subst e;obtain⟨cur,hk⟩:=aV ho0 (g:=b) rfl;unfold Bk at hk;rw[hb] at hk;cases hk
 obtain⟨e1,c1,m1⟩:=a4.isMap;obtain⟨ff,q1,q2⟩:=a5;obtain⟨e2,c2,m2⟩:=q1.isMap;refine⟨upd (upd rv 9 ⟨v',(rv 9).n+m,(rv 9).xs++cs⟩) 0 ⟨(rv 0).v,(rv 0).n,(rv 0).xs.set (init.length*9+4) v'⟩,?_,?_,?_,rfl⟩
 ·refine {par:= ?_,live:=b2,fnt:=⟨f2.unit,?_,f2.chr,f2.lks,f2.fts,f2.axs,f2.rgs,f2.fns,f2.cvt⟩,gmp:=a4.keep (Below.heap_setCell _ _ _ _ (qc _ _ _ m1)),glI:=h.glI,cls:=aiF.tr ⟨ff,q1,q2⟩ ht2 (Below.heap_setCell _ _ _ _ (qc _ _ _ m2)),few:=fU (fU h.few (nt (akA _ _) hK) (nt (akF (h.few 9 (by decide)) m) hK)) (nr _) (nt (h.few 0 (by decide)) (nt (akA _ _) hK)),low:=h.low}
  ·exact Bk.far a1 (fun e=>wI e.symm) _
  obtain⟨g1,g2⟩:=h.fnt.gly;refine⟨by show(rv 0).n=_;rw[g1,hs];simp,.inr ?_⟩;rcases g2 with⟨e,_⟩|⟨init',g',ci,e1,e2,h3,h4,h5,h6,h7,h8,h9,h10⟩
  ·rw[hs] at e;simp at e
  rw[hs] at e1;obtain⟨rfl,e1⟩:=List.append_inj' e1 rfl;obtain rfl:g=g':=by simpa using e1
  refine⟨init,_,ci,rfl,?_,h3,ht2.fl ahW.ok (ht.fl ahW.ok h4),(h5.tr PtR.ok ht).tr PtR.ok ht2,((h6.tr ahT.ok ht).app rfl hm (ht.fl ahT.ok hf)).tr ahT.ok ht2,(h7.tr ah6.ok ht).tr ah6.ok ht2,(h8.tr ahY.ok ht).tr ahY.ok ht2,(h9.tr ah3.ok ht).tr ah3.ok ht2,(h10.tr ah5.ok ht).tr ah5.ok ht2⟩;show(rv 0).xs.set (init.length*9+4) v'=_;rw[e2,pI ci _ 4 _ _ h4.1];rfl
 ·exact(KQ.live h.live (i:=9) (by decide) hg).trans (KQ.live a2 (i:=0) (by decide) hg2)
 refine((akl Bd w).grown hg h.size (fun g e=>((h.live.own 9 (by decide)).lt g e).1)).setCell ?_ _;exact((h.live.own 0 (by decide)).lt G (by rw[h0];rfl)).1
theorem PSt.ajw (h:PSt w Bd p gm cm gl s rv K){init:List ahR}{g:ahR}(hs:s.f.ahO=init++[g]){G n0 c0:Nat}(h0:(rv 0).v= .slice (some ⟨G,0,none⟩) n0 c0){v':Value}{m:Nat}{cs:List Value}{ys:List Part}(hg:w.grownBy w2 (rv 10).v.ownBlock)(ho:w2.ownsRow Bd (kT 10) (kS 10) v' ((rv 10).n+m) ((rv 10).xs++cs))(hl:Loc w (rv 10).v v')
  (hm:m=ys.length) (hf:Fl ah6 3 w (Fz w rv) cs ys) {K':Nat} (hK:K+m<=K'):
  ∃rv',PSt (w2.setCell ⟨G,init.length*9+5,none⟩ v') Bd p gm cm gl {s with f:= {s.f with ahO:=init++[{g with parts:=g.parts++ys}]}} rv' K'/\KQ cm w (w2.setCell ⟨G,init.length*9+5,none⟩ v')/\Below Bd w (w2.setCell ⟨G,init.length*9+5,none⟩ v')/\(rv' 0).v=(rv 0).v:=by
 have ht:Tr w rv w2 (upd rv 10 ⟨v',(rv 10).n+m,(rv 10).xs++cs⟩):=Tr.row (by decide) hg hl;obtain⟨a1,a2,-,a4,a5⟩:=h.row (i:=10) (by decide) (r:=⟨v',(rv 10).n+m,(rv 10).xs++cs⟩) hg ho hl;have k0:(upd rv 10 ⟨v',(rv 10).n+m,(rv 10).xs++cs⟩) 0=rv 0:=rfl;have ho0:=a2.own 0 (by decide);rw[k0,h0] at ho0;have hn0:n0=(rv 0).n:=by obtain⟨A9,c9,e⟩:=gX (h.live.own 0 (by decide));rw[h0] at e;simp only[alh] at e;exact e.2.1
 have hos:=rG (hn0 ▸ ho0) (init.length*9+5) v';rw[hn0] at h0;have hown0:(Value.slice (some ⟨G,0,none⟩) (rv 0).n c0).ownBlock=some G:=rfl;have hg2:w2.grownBy (w2.setCell ⟨G,init.length*9+5,none⟩ v') ((upd rv 10 ⟨v',(rv 10).n+m,(rv 10).xs++cs⟩) 0).v.ownBlock:=by rw[k0,h0,hown0];exact dC w2 ⟨G,_,none⟩ v'
 rw[<-h0] at hos;have hl2:Loc w2 ((upd rv 10 ⟨v',(rv 10).n+m,(rv 10).xs++cs⟩) 0).v (rv 0).v:= .inl rfl;have b2:=a2.row (i:=0) (by decide) (r:=⟨(rv 0).v,(rv 0).n,(rv 0).xs.set (init.length*9+5) v'⟩) hg2 hos hl2;have ht2:Tr w2 (upd rv 10 ⟨v',(rv 10).n+m,(rv 10).xs++cs⟩) (w2.setCell ⟨G,init.length*9+5,none⟩ v') (upd (upd rv 10 ⟨v',(rv 10).n+m,(rv 10).xs++cs⟩) 0 ⟨(rv 0).v,(rv 0).n,(rv 0).xs.set (init.length*9+5) v'⟩):=Tr.row (by decide) hg2 hl2;have f2:=(h.fnt.tr ht).tr' ht2;have wI:G≠p:=fun e=>by
  obtain⟨cur,hb⟩:=aV (h.live.own 0 (by decide)) (g:=G) (by rw[h0];rfl);subst e;have:=(dR hb h.par).1
  revert this
  decide
 have qc:∀b es c,w2.heap[b]? =some (Obj.map es c)->b≠G:=fun b es c hb e=>by
  subst e;obtain⟨cur,hk⟩:=aV ho0 (g:=b) rfl;unfold Bk at hk;rw[hb] at hk;cases hk
 obtain⟨e1,c1,m1⟩:=a4.isMap;obtain⟨ff,q1,q2⟩:=a5;obtain⟨e2,c2,m2⟩:=q1.isMap;refine⟨upd (upd rv 10 ⟨v',(rv 10).n+m,(rv 10).xs++cs⟩) 0 ⟨(rv 0).v,(rv 0).n,(rv 0).xs.set (init.length*9+5) v'⟩,?_,?_,?_,rfl⟩
 ·refine {par:= ?_,live:=b2,fnt:=⟨f2.unit,?_,f2.chr,f2.lks,f2.fts,f2.axs,f2.rgs,f2.fns,f2.cvt⟩,gmp:=a4.keep (Below.heap_setCell _ _ _ _ (qc _ _ _ m1)),glI:=h.glI,cls:=aiF.tr ⟨ff,q1,q2⟩ ht2 (Below.heap_setCell _ _ _ _ (qc _ _ _ m2)),few:=fU (fU h.few (nt (akA _ _) hK) (nt (akF (h.few 10 (by decide)) m) hK)) (nr _) (nt (h.few 0 (by decide)) (nt (akA _ _) hK)),low:=h.low}
  ·exact Bk.far a1 (fun e=>wI e.symm) _
  obtain⟨g1,g2⟩:=h.fnt.gly;refine⟨by show(rv 0).n=_;rw[g1,hs];simp,.inr ?_⟩;rcases g2 with⟨e,_⟩|⟨init',g',ci,e1,e2,h3,h4,h5,h6,h7,h8,h9,h10⟩
  ·rw[hs] at e;simp at e
  rw[hs] at e1;obtain⟨rfl,e1⟩:=List.append_inj' e1 rfl;obtain rfl:g=g':=by simpa using e1
  refine⟨init,_,ci,rfl,?_,h3,ht2.fl ahW.ok (ht.fl ahW.ok h4),(h5.tr PtR.ok ht).tr PtR.ok ht2,(h6.tr ahT.ok ht).tr ahT.ok ht2,((h7.tr ah6.ok ht).app rfl hm (ht.fl ah6.ok hf)).tr ah6.ok ht2,(h8.tr ahY.ok ht).tr ahY.ok ht2,(h9.tr ah3.ok ht).tr ah3.ok ht2,(h10.tr ah5.ok ht).tr ah5.ok ht2⟩;show(rv 0).xs.set (init.length*9+5) v'=_;rw[e2,pI ci _ 5 _ _ h4.1];rfl
 ·exact(KQ.live h.live (i:=10) (by decide) hg).trans (KQ.live a2 (i:=0) (by decide) hg2)
 refine((akl Bd w).grown hg h.size (fun g e=>((h.live.own 10 (by decide)).lt g e).1)).setCell ?_ _;exact((h.live.own 0 (by decide)).lt G (by rw[h0];rfl)).1
theorem PSt.aju (h:PSt w Bd p gm cm gl s rv K){init:List ahR}{g:ahR}(hs:s.f.ahO=init++[g]){G n0 c0:Nat}(h0:(rv 0).v= .slice (some ⟨G,0,none⟩) n0 c0){v':Value}{m:Nat}{cs:List Value}{ys:List aiK}(hg:w.grownBy w2 (rv 11).v.ownBlock)(ho:w2.ownsRow Bd (kT 11) (kS 11) v' ((rv 11).n+m) ((rv 11).xs++cs))(hl:Loc w (rv 11).v v')
  (hm:m=ys.length) (hf:Fl ahY 4 w (Fz w rv) cs ys) {K':Nat} (hK:K+m<=K'):
  ∃rv',PSt (w2.setCell ⟨G,init.length*9+6,none⟩ v') Bd p gm cm gl {s with f:= {s.f with ahO:=init++[{g with anchors:=g.anchors++ys}]}} rv' K'/\KQ cm w (w2.setCell ⟨G,init.length*9+6,none⟩ v')/\Below Bd w (w2.setCell ⟨G,init.length*9+6,none⟩ v')/\(rv' 0).v=(rv 0).v:=by
 have ht:Tr w rv w2 (upd rv 11 ⟨v',(rv 11).n+m,(rv 11).xs++cs⟩):=Tr.row (by decide) hg hl;obtain⟨a1,a2,-,a4,a5⟩:=h.row (i:=11) (by decide) (r:=⟨v',(rv 11).n+m,(rv 11).xs++cs⟩) hg ho hl;have k0:(upd rv 11 ⟨v',(rv 11).n+m,(rv 11).xs++cs⟩) 0=rv 0:=rfl;have ho0:=a2.own 0 (by decide);rw[k0,h0] at ho0;have hn0:n0=(rv 0).n:=by obtain⟨A9,c9,e⟩:=gX (h.live.own 0 (by decide));rw[h0] at e;simp only[alh] at e;exact e.2.1
 have hos:=rG (hn0 ▸ ho0) (init.length*9+6) v';rw[hn0] at h0;have hown0:(Value.slice (some ⟨G,0,none⟩) (rv 0).n c0).ownBlock=some G:=rfl;have hg2:w2.grownBy (w2.setCell ⟨G,init.length*9+6,none⟩ v') ((upd rv 11 ⟨v',(rv 11).n+m,(rv 11).xs++cs⟩) 0).v.ownBlock:=by rw[k0,h0,hown0];exact dC w2 ⟨G,_,none⟩ v'
 rw[<-h0] at hos;have hl2:Loc w2 ((upd rv 11 ⟨v',(rv 11).n+m,(rv 11).xs++cs⟩) 0).v (rv 0).v:= .inl rfl;have b2:=a2.row (i:=0) (by decide) (r:=⟨(rv 0).v,(rv 0).n,(rv 0).xs.set (init.length*9+6) v'⟩) hg2 hos hl2;have ht2:Tr w2 (upd rv 11 ⟨v',(rv 11).n+m,(rv 11).xs++cs⟩) (w2.setCell ⟨G,init.length*9+6,none⟩ v') (upd (upd rv 11 ⟨v',(rv 11).n+m,(rv 11).xs++cs⟩) 0 ⟨(rv 0).v,(rv 0).n,(rv 0).xs.set (init.length*9+6) v'⟩):=Tr.row (by decide) hg2 hl2;have f2:=(h.fnt.tr ht).tr' ht2;have wI:G≠p:=fun e=>by
  obtain⟨cur,hb⟩:=aV (h.live.own 0 (by decide)) (g:=G) (by rw[h0];rfl);subst e;have:=(dR hb h.par).1
  revert this
  decide
 have qc:∀b es c,w2.heap[b]? =some (Obj.map es c)->b≠G:=fun b es c hb e=>by
  subst e;obtain⟨cur,hk⟩:=aV ho0 (g:=b) rfl;unfold Bk at hk;rw[hb] at hk;cases hk
 obtain⟨e1,c1,m1⟩:=a4.isMap;obtain⟨ff,q1,q2⟩:=a5;obtain⟨e2,c2,m2⟩:=q1.isMap;refine⟨upd (upd rv 11 ⟨v',(rv 11).n+m,(rv 11).xs++cs⟩) 0 ⟨(rv 0).v,(rv 0).n,(rv 0).xs.set (init.length*9+6) v'⟩,?_,?_,?_,rfl⟩
 ·refine {par:= ?_,live:=b2,fnt:=⟨f2.unit,?_,f2.chr,f2.lks,f2.fts,f2.axs,f2.rgs,f2.fns,f2.cvt⟩,gmp:=a4.keep (Below.heap_setCell _ _ _ _ (qc _ _ _ m1)),glI:=h.glI,cls:=aiF.tr ⟨ff,q1,q2⟩ ht2 (Below.heap_setCell _ _ _ _ (qc _ _ _ m2)),few:=fU (fU h.few (nt (akA _ _) hK) (nt (akF (h.few 11 (by decide)) m) hK)) (nr _) (nt (h.few 0 (by decide)) (nt (akA _ _) hK)),low:=h.low}
  ·exact Bk.far a1 (fun e=>wI e.symm) _
  obtain⟨g1,g2⟩:=h.fnt.gly;refine⟨by show(rv 0).n=_;rw[g1,hs];simp,.inr ?_⟩;rcases g2 with⟨e,_⟩|⟨init',g',ci,e1,e2,h3,h4,h5,h6,h7,h8,h9,h10⟩
  ·rw[hs] at e;simp at e
  rw[hs] at e1;obtain⟨rfl,e1⟩:=List.append_inj' e1 rfl;obtain rfl:g=g':=by simpa using e1
  refine⟨init,_,ci,rfl,?_,h3,ht2.fl ahW.ok (ht.fl ahW.ok h4),(h5.tr PtR.ok ht).tr PtR.ok ht2,(h6.tr ahT.ok ht).tr ahT.ok ht2,(h7.tr ah6.ok ht).tr ah6.ok ht2,((h8.tr ahY.ok ht).app rfl hm (ht.fl ahY.ok hf)).tr ahY.ok ht2,(h9.tr ah3.ok ht).tr ah3.ok ht2,(h10.tr ah5.ok ht).tr ah5.ok ht2⟩;show(rv 0).xs.set (init.length*9+6) v'=_;rw[e2,pI ci _ 6 _ _ h4.1];rfl
 ·exact(KQ.live h.live (i:=11) (by decide) hg).trans (KQ.live a2 (i:=0) (by decide) hg2)
 refine((akl Bd w).grown hg h.size (fun g e=>((h.live.own 11 (by decide)).lt g e).1)).setCell ?_ _;exact((h.live.own 0 (by decide)).lt G (by rw[h0];rfl)).1
theorem PSt.ajJ (h:PSt w Bd p gm cm gl s rv K){init:List ahR}{g:ahR}(hs:s.f.ahO=init++[g]){G n0 c0:Nat}(h0:(rv 0).v= .slice (some ⟨G,0,none⟩) n0 c0){v':Value}{m:Nat}{cs:List Value}{ys:List Delta}(hg:w.grownBy w2 (rv 12).v.ownBlock)(ho:w2.ownsRow Bd (kT 12) (kS 12) v' ((rv 12).n+m) ((rv 12).xs++cs))(hl:Loc w (rv 12).v v')
  (hm:m=ys.length) (hf:Fl ah3 4 w (Fz w rv) cs ys) {K':Nat} (hK:K+m<=K'):
  ∃rv',PSt (w2.setCell ⟨G,init.length*9+7,none⟩ v') Bd p gm cm gl {s with f:= {s.f with ahO:=init++[{g with deltas:=g.deltas++ys}]}} rv' K'/\KQ cm w (w2.setCell ⟨G,init.length*9+7,none⟩ v')/\Below Bd w (w2.setCell ⟨G,init.length*9+7,none⟩ v')/\(rv' 0).v=(rv 0).v:=by
 have ht:Tr w rv w2 (upd rv 12 ⟨v',(rv 12).n+m,(rv 12).xs++cs⟩):=Tr.row (by decide) hg hl;obtain⟨a1,a2,-,a4,a5⟩:=h.row (i:=12) (by decide) (r:=⟨v',(rv 12).n+m,(rv 12).xs++cs⟩) hg ho hl;have k0:(upd rv 12 ⟨v',(rv 12).n+m,(rv 12).xs++cs⟩) 0=rv 0:=rfl;have ho0:=a2.own 0 (by decide);rw[k0,h0] at ho0;have hn0:n0=(rv 0).n:=by obtain⟨A9,c9,e⟩:=gX (h.live.own 0 (by decide));rw[h0] at e;simp only[alh] at e;exact e.2.1
 have hos:=rG (hn0 ▸ ho0) (init.length*9+7) v';rw[hn0] at h0;have hown0:(Value.slice (some ⟨G,0,none⟩) (rv 0).n c0).ownBlock=some G:=rfl;have hg2:w2.grownBy (w2.setCell ⟨G,init.length*9+7,none⟩ v') ((upd rv 12 ⟨v',(rv 12).n+m,(rv 12).xs++cs⟩) 0).v.ownBlock:=by rw[k0,h0,hown0];exact dC w2 ⟨G,_,none⟩ v'
 rw[<-h0] at hos;have hl2:Loc w2 ((upd rv 12 ⟨v',(rv 12).n+m,(rv 12).xs++cs⟩) 0).v (rv 0).v:= .inl rfl;have b2:=a2.row (i:=0) (by decide) (r:=⟨(rv 0).v,(rv 0).n,(rv 0).xs.set (init.length*9+7) v'⟩) hg2 hos hl2;have ht2:Tr w2 (upd rv 12 ⟨v',(rv 12).n+m,(rv 12).xs++cs⟩) (w2.setCell ⟨G,init.length*9+7,none⟩ v') (upd (upd rv 12 ⟨v',(rv 12).n+m,(rv 12).xs++cs⟩) 0 ⟨(rv 0).v,(rv 0).n,(rv 0).xs.set (init.length*9+7) v'⟩):=Tr.row (by decide) hg2 hl2;have f2:=(h.fnt.tr ht).tr' ht2;have wI:G≠p:=fun e=>by
  obtain⟨cur,hb⟩:=aV (h.live.own 0 (by decide)) (g:=G) (by rw[h0];rfl);subst e;have:=(dR hb h.par).1
  revert this
  decide
 have qc:∀b es c,w2.heap[b]? =some (Obj.map es c)->b≠G:=fun b es c hb e=>by
  subst e;obtain⟨cur,hk⟩:=aV ho0 (g:=b) rfl;unfold Bk at hk;rw[hb] at hk;cases hk
 obtain⟨e1,c1,m1⟩:=a4.isMap;obtain⟨ff,q1,q2⟩:=a5;obtain⟨e2,c2,m2⟩:=q1.isMap;refine⟨upd (upd rv 12 ⟨v',(rv 12).n+m,(rv 12).xs++cs⟩) 0 ⟨(rv 0).v,(rv 0).n,(rv 0).xs.set (init.length*9+7) v'⟩,?_,?_,?_,rfl⟩
 ·refine {par:= ?_,live:=b2,fnt:=⟨f2.unit,?_,f2.chr,f2.lks,f2.fts,f2.axs,f2.rgs,f2.fns,f2.cvt⟩,gmp:=a4.keep (Below.heap_setCell _ _ _ _ (qc _ _ _ m1)),glI:=h.glI,cls:=aiF.tr ⟨ff,q1,q2⟩ ht2 (Below.heap_setCell _ _ _ _ (qc _ _ _ m2)),few:=fU (fU h.few (nt (akA _ _) hK) (nt (akF (h.few 12 (by decide)) m) hK)) (nr _) (nt (h.few 0 (by decide)) (nt (akA _ _) hK)),low:=h.low}
  ·exact Bk.far a1 (fun e=>wI e.symm) _
  obtain⟨g1,g2⟩:=h.fnt.gly;refine⟨by show(rv 0).n=_;rw[g1,hs];simp,.inr ?_⟩;rcases g2 with⟨e,_⟩|⟨init',g',ci,e1,e2,h3,h4,h5,h6,h7,h8,h9,h10⟩
  ·rw[hs] at e;simp at e
  rw[hs] at e1;obtain⟨rfl,e1⟩:=List.append_inj' e1 rfl;obtain rfl:g=g':=by simpa using e1
  refine⟨init,_,ci,rfl,?_,h3,ht2.fl ahW.ok (ht.fl ahW.ok h4),(h5.tr PtR.ok ht).tr PtR.ok ht2,(h6.tr ahT.ok ht).tr ahT.ok ht2,(h7.tr ah6.ok ht).tr ah6.ok ht2,(h8.tr ahY.ok ht).tr ahY.ok ht2,((h9.tr ah3.ok ht).app rfl hm (ht.fl ah3.ok hf)).tr ah3.ok ht2,(h10.tr ah5.ok ht).tr ah5.ok ht2⟩;show(rv 0).xs.set (init.length*9+7) v'=_;rw[e2,pI ci _ 7 _ _ h4.1];rfl
 ·exact(KQ.live h.live (i:=12) (by decide) hg).trans (KQ.live a2 (i:=0) (by decide) hg2)
 refine((akl Bd w).grown hg h.size (fun g e=>((h.live.own 12 (by decide)).lt g e).1)).setCell ?_ _;exact((h.live.own 0 (by decide)).lt G (by rw[h0];rfl)).1
theorem PSt.ajN (h:PSt w Bd p gm cm gl s rv K){init:List ahR}{g:ahR}(hs:s.f.ahO=init++[g]){G n0 c0:Nat}(h0:(rv 0).v= .slice (some ⟨G,0,none⟩) n0 c0){v':Value}{m:Nat}{cs:List Value}{ys:List Ins}(hg:w.grownBy w2 (rv 13).v.ownBlock)(ho:w2.ownsRow Bd (kT 13) (kS 13) v' ((rv 13).n+m) ((rv 13).xs++cs))(hl:Loc w (rv 13).v v')
  (hm:m=ys.length) (hf:Fl ah5 2 w (Fz w rv) cs ys) {K':Nat} (hK:K+m<=K'):
  ∃rv',PSt (w2.setCell ⟨G,init.length*9+8,none⟩ v') Bd p gm cm gl {s with f:= {s.f with ahO:=init++[{g with hint:=g.hint++ys}]}} rv' K'/\KQ cm w (w2.setCell ⟨G,init.length*9+8,none⟩ v')/\Below Bd w (w2.setCell ⟨G,init.length*9+8,none⟩ v')/\(rv' 0).v=(rv 0).v:=by
 have ht:Tr w rv w2 (upd rv 13 ⟨v',(rv 13).n+m,(rv 13).xs++cs⟩):=Tr.row (by decide) hg hl;obtain⟨a1,a2,-,a4,a5⟩:=h.row (i:=13) (by decide) (r:=⟨v',(rv 13).n+m,(rv 13).xs++cs⟩) hg ho hl;have k0:(upd rv 13 ⟨v',(rv 13).n+m,(rv 13).xs++cs⟩) 0=rv 0:=rfl;have ho0:=a2.own 0 (by decide);rw[k0,h0] at ho0;have hn0:n0=(rv 0).n:=by obtain⟨A9,c9,e⟩:=gX (h.live.own 0 (by decide));rw[h0] at e;simp only[alh] at e;exact e.2.1
 have hos:=rG (hn0 ▸ ho0) (init.length*9+8) v';rw[hn0] at h0;have hown0:(Value.slice (some ⟨G,0,none⟩) (rv 0).n c0).ownBlock=some G:=rfl;have hg2:w2.grownBy (w2.setCell ⟨G,init.length*9+8,none⟩ v') ((upd rv 13 ⟨v',(rv 13).n+m,(rv 13).xs++cs⟩) 0).v.ownBlock:=by rw[k0,h0,hown0];exact dC w2 ⟨G,_,none⟩ v'
 rw[<-h0] at hos;have hl2:Loc w2 ((upd rv 13 ⟨v',(rv 13).n+m,(rv 13).xs++cs⟩) 0).v (rv 0).v:= .inl rfl;have b2:=a2.row (i:=0) (by decide) (r:=⟨(rv 0).v,(rv 0).n,(rv 0).xs.set (init.length*9+8) v'⟩) hg2 hos hl2;have ht2:Tr w2 (upd rv 13 ⟨v',(rv 13).n+m,(rv 13).xs++cs⟩) (w2.setCell ⟨G,init.length*9+8,none⟩ v') (upd (upd rv 13 ⟨v',(rv 13).n+m,(rv 13).xs++cs⟩) 0 ⟨(rv 0).v,(rv 0).n,(rv 0).xs.set (init.length*9+8) v'⟩):=Tr.row (by decide) hg2 hl2;have f2:=(h.fnt.tr ht).tr' ht2;have wI:G≠p:=fun e=>by
  obtain⟨cur,hb⟩:=aV (h.live.own 0 (by decide)) (g:=G) (by rw[h0];rfl);subst e;have:=(dR hb h.par).1
  revert this
  decide
 have qc:∀b es c,w2.heap[b]? =some (Obj.map es c)->b≠G:=fun b es c hb e=>by
  subst e;obtain⟨cur,hk⟩:=aV ho0 (g:=b) rfl;unfold Bk at hk;rw[hb] at hk;cases hk
 obtain⟨e1,c1,m1⟩:=a4.isMap;obtain⟨ff,q1,q2⟩:=a5;obtain⟨e2,c2,m2⟩:=q1.isMap;refine⟨upd (upd rv 13 ⟨v',(rv 13).n+m,(rv 13).xs++cs⟩) 0 ⟨(rv 0).v,(rv 0).n,(rv 0).xs.set (init.length*9+8) v'⟩,?_,?_,?_,rfl⟩
 ·refine {par:= ?_,live:=b2,fnt:=⟨f2.unit,?_,f2.chr,f2.lks,f2.fts,f2.axs,f2.rgs,f2.fns,f2.cvt⟩,gmp:=a4.keep (Below.heap_setCell _ _ _ _ (qc _ _ _ m1)),glI:=h.glI,cls:=aiF.tr ⟨ff,q1,q2⟩ ht2 (Below.heap_setCell _ _ _ _ (qc _ _ _ m2)),few:=fU (fU h.few (nt (akA _ _) hK) (nt (akF (h.few 13 (by decide)) m) hK)) (nr _) (nt (h.few 0 (by decide)) (nt (akA _ _) hK)),low:=h.low}
  ·exact Bk.far a1 (fun e=>wI e.symm) _
  obtain⟨g1,g2⟩:=h.fnt.gly;refine⟨by show(rv 0).n=_;rw[g1,hs];simp,.inr ?_⟩;rcases g2 with⟨e,_⟩|⟨init',g',ci,e1,e2,h3,h4,h5,h6,h7,h8,h9,h10⟩
  ·rw[hs] at e;simp at e
  rw[hs] at e1;obtain⟨rfl,e1⟩:=List.append_inj' e1 rfl;obtain rfl:g=g':=by simpa using e1
  refine⟨init,_,ci,rfl,?_,h3,ht2.fl ahW.ok (ht.fl ahW.ok h4),(h5.tr PtR.ok ht).tr PtR.ok ht2,(h6.tr ahT.ok ht).tr ahT.ok ht2,(h7.tr ah6.ok ht).tr ah6.ok ht2,(h8.tr ahY.ok ht).tr ahY.ok ht2,(h9.tr ah3.ok ht).tr ah3.ok ht2,((h10.tr ah5.ok ht).app rfl hm (ht.fl ah5.ok hf)).tr ah5.ok ht2⟩;show(rv 0).xs.set (init.length*9+8) v'=_;rw[e2,pI ci _ 8 _ _ h4.1];rfl
 ·exact(KQ.live h.live (i:=13) (by decide) hg).trans (KQ.live a2 (i:=0) (by decide) hg2)
 refine((akl Bd w).grown hg h.size (fun g e=>((h.live.own 13 (by decide)).lt g e).1)).setCell ?_ _;exact((h.live.own 0 (by decide)).lt G (by rw[h0];rfl)).1
end
end
section
attribute [-go_sem] Builtin.append_
theorem zh (w:World)(S:Bs)(l:List Int)(h:∀x∈l,I64 x):Fl ahT 1 w S (aW l) l:=by
 induction l with
 |nil=>exact Fl.nil
 |cons x r ih=>exact(Fl.one (R:=ahT) (cs:=[.int .i64 x]) ⟨rfl,h x (by simp)⟩ rfl).append (ih (fun y hy=>h y (by simp[hy])))
theorem Ei (l:List B):∀x∈l.map aA,I64 x:=by intro x hx;rw[akQ] at hx;obtain⟨t,_,rfl⟩:=hx;exact dG t
theorem aif.below {w w':World}{A:Option Addr}{n:Nat}{ws:List P3}(h:aif w A n ws)(hb:Below w.heap.size w w'):aif w' A n ws:=⟨h.rd.below hb,h.len,h.few⟩
theorem QN (w:World)(Bd p gm cm:Nat)(gl:Gl)(s:PS)(rv:Rows)(K:Nat)(A:Option Addr)(n c:Nat)(ws:List P3)(t:B)(l:List B)(hP:PSt w Bd p gm cm gl s rv K)(hL:aif w A n ws)(hT:af ws=t::l)(hK:K<=10000000000)(hc:n<=c):
  Calls Tryz.prog 76 #[.pointer (some ⟨p,0,none⟩),.slice A n c] w (ahS w Bd p gm cm gl (K+n) (zX s l)):=by
 have hn:n=l.length+1:=by rw[<-hL.length];exact dE hT
 have hB:=hP.size;have HP:=hd0 hP;have hpb:p<w.heap.size:=hP.par.lt;obtain⟨A0,c0,hv⟩:=hP.slice (i:=7) (by decide);have kp:w.cell? ⟨p,8,none⟩=some (rv 7).v:=hP.par.cell 8;rw[hv] at kp;have fp:=hP.par.frozen 8;have hfew:=hP.few 7 (by decide);have HR:Hid (zX s l=fin (fB 0 l) {s with f:= {s.f with cvt:=s.f.cvt++l.map aA}}):=rfl;obtain⟨A',hsub,hrd,hlen⟩:=hL.sub hc 1 1 rfl (by omega);have hns:=hd0 (fun w1 rb (hr:Rdr w1 rb p 0) (hb:Below w.heap.size w w1)=>ug w1 rb p 0 A' (n - 1) (c - 1) (ws.drop 1) hr (hrd.below hb) hlen (by have:=hL.few;omega));rw[jA hT] at hns;have hll:l.length=n - 1:=by omega
 have hnn:=hL.few;have hfl:=hd0 (fun(w:World) S=>zh w S (l.map aA) (Ei l));have hlm:Hid (n - 1=(l.map aA).length):=by show _=_;simp[hll]
 clear hP hL hT hrd hlen hll hn;go_enter Tryz.func76,Tryz.ntmps76
 go_wp2_with fail
 refine(fZ w p).mono ?_;rintro e w1 ⟨rfl,hr1,hb1⟩;have k1:w1.cell? ⟨p,8,none⟩=some (.slice A0 (rv 7).n c0):=((aj hb1).1 _ _ hpb).trans kp;have hz1:=hb1.size;have jV:=hd0 hr1;have Hb1:=hd0 hb1;clear hr1 hb1;go_wp2_with fail
 have k1d:w1.drew.cell? ⟨p,8,none⟩=some (.slice A0 (rv 7).n c0):=k1
 go_region_with (go_at_call 124;refine(hns.out _ _ (by exact jV.out) (by exact Hb1.out.drew)).mono ?_;rintro e w2 ⟨v,rfl,A4,c4,rfl,fD,hr4,hg4⟩;have hb2:=aU Hb1.out.drew hg4 (nr _);have aB:=HP.out.below hb2;have hown:=aB.live.own 7 (by decide);rw[hv] at hown;have zO:=(jf fD).rd;obtain⟨A5,c5,w9,hrun,di,aN,bz⟩:=DW qK 22 w2 Bd _ c0 A0 _ _ A4 (n - 1) c4 _ hown zO (su _) (by omega) aB.size;have k2:w2.cell? ⟨p,8,none⟩=some (.slice A0 (rv 7).n c0):=((aj hb2).1 _ _ hpb).trans kp;rw[<-hv] at aN bz;have bI:Bk w9 p jq (dV s rv gm cm):=(aB.row (i:=7) (by decide) (r:=⟨.slice A5 ((rv 7).n+(n - 1)) c5,_,_⟩) aN di bz).1;have jw:=Bk.grown hr4 aN (aB.live.own 7 (by decide)) (by decide);have x9:w9.cell? ⟨p,8,none⟩=some (rv 7).v:=bI.cell 8;have y9:=bI.frozen 8;have z9:w9.cell? ⟨w.heap.size,1,none⟩=some (.int .i64 (fB 0 l)):=jw.cell 1;have bG:=hd0 (PSt.ajL (m:=n - 1) (K':=K+n) aB aN di bz hlm.out (hfl.out _ _) (by omega));have iy:=hd0 ((hb2.mono hB).trans (aB.aiA (i:=7) (by decide) aN 8 (.slice A5 ((rv 7).n+(n - 1)) c5) aB.size));have HQ:=hd0 (KQ.below (cm:=cm) hb2);clear hown di aN bz bI jw aB hb2 fD hr4 hg4 zO)
 all_goals
  go_wp2;go_ret
  exact ahS.fin HR.out iy.out (HQ.out.trans bG.out.2) bG.out.1
end
section
structure Fp where
 A1:Option Addr
 c1:Nat
 A2:Option Addr
 c2:Nat
 A3:Option Addr
 c3:Nat
 A4:Option Addr
 c4:Nat
 A5:Option Addr
 c5:Nat
 A6:Option Addr
 c6:Nat
 A7:Option Addr
 c7:Nat
 A8:Option Addr
 c8:Nat
def Fp.cs (p:Fp)(f:Fnt):Array Value:= #[.int .i64 f.unit,.slice p.A1 f.ahO.length p.c1,.slice p.A2 f.chars.length p.c2,.slice p.A3 f.ahP.length p.c3,.slice p.A4 f.features.length p.c4,.slice p.A5 f.ahQ.length p.c5,.slice p.A6 f.regions.length p.c6,.slice p.A7 f.funcs.length p.c7,.slice p.A8 f.cvt.length p.c8]
structure FIn (p:Fp)(f:Fnt)(w:World):Prop where
 unit:I64 f.unit
 ahO:Sl ahW 9 w (Lw w) p.A1 f.ahO
 chars:Sl ait 2 w (Lw w) p.A2 f.chars
 ahP:Sl ah1 3 w (Lw w) p.A3 f.ahP
 ahZ:Sl ah2 2 w (Lw w) p.A4 f.features
 ahQ:Sl aij 4 w (Lw w) p.A5 f.ahQ
 regs:Sl ah7 1 w (Lw w) p.A6 f.regions
 funcs:Sl aih 1 w (Lw w) p.A7 f.funcs
 cvt:Sl ahT 1 w (Lw w) p.A8 f.cvt
theorem FIn.below {p:Fp}{f:Fnt}{w w':World}(h:FIn p f w)(hb:Below w.heap.size w w'):FIn p f w':=⟨h.unit,h.ahO.lw ahW.ok hb,h.chars.lw ait.ok hb,h.ahP.lw ah1.ok hb,h.ahZ.lw ah2.ok hb,h.ahQ.lw aij.ok hb,h.regs.lw ah7.ok hb,h.funcs.lw aih.ok hb,h.cvt.lw ahT.ok hb⟩
theorem aim.fin {w:World}{fc:List Value}{f:Fnt}(h:aim w (Lw w) fc f):∃p:Fp,fc.toArray=p.cs f/\FIn p f w:=by obtain⟨A1,c1,A2,c2,A3,c3,A4,c4,A5,c5,A6,c6,A7,c7,A8,c8,rfl,r0,h1,h2,h3,h4,h5,h6,h7,h8⟩:=h;exact⟨⟨A1,c1,A2,c2,A3,c3,A4,c4,A5,c5,A6,c6,A7,c7,A8,c8⟩,rfl,r0,h1,h2,h3,h4,h5,h6,h7,h8⟩
structure Gp where
 A3:Option Addr
 c3:Nat
 A4:Option Addr
 c4:Nat
 A5:Option Addr
 c5:Nat
 A6:Option Addr
 c6:Nat
 A7:Option Addr
 c7:Nat
 A8:Option Addr
 c8:Nat
def Gp.cs (p:Gp)(g:ahR):Array Value:= #[.string ⟨g.name.toArray⟩,.int .i64 g.advance,.bool g.mark,.slice p.A3 g.points.length p.c3,.slice p.A4 g.ends.length p.c4,.slice p.A5 g.parts.length p.c5,.slice p.A6 g.anchors.length p.c6,.slice p.A7 g.deltas.length p.c7,.slice p.A8 g.hint.length p.c8]
structure GIn (p:Gp)(g:ahR)(w:World):Prop where
 adv:I64 g.advance
 points:Sl PtR 3 w (Lw w) p.A3 g.points
 ends:Sl ahT 1 w (Lw w) p.A4 g.ends
 parts:Sl ah6 3 w (Lw w) p.A5 g.parts
 anchors:Sl ahY 4 w (Lw w) p.A6 g.anchors
 deltas:Sl ah3 4 w (Lw w) p.A7 g.deltas
 hint:Sl ah5 2 w (Lw w) p.A8 g.hint
theorem GIn.below {p:Gp}{g:ahR}{w w':World}(h:GIn p g w)(hb:Below w.heap.size w w'):GIn p g w':=⟨h.adv,h.points.lw PtR.ok hb,h.ends.lw ahT.ok hb,h.parts.lw ah6.ok hb,h.anchors.lw ahY.ok hb,h.deltas.lw ah3.ok hb,h.hint.lw ah5.ok hb⟩
structure Rp where
 A0:Option Addr
 c0:Nat
 A1:Option Addr
 c1:Nat
 A2:Option Addr
 c2:Nat
 A3:Option Addr
 c3:Nat
 A4:Option Addr
 c4:Nat
def Rp.cs (p:Rp)(r:aii):Array Value:= #[.slice p.A0 r.back.length p.c0,.slice p.A1 r.in'.length p.c1,.slice p.A2 r.ahead.length p.c2,.slice p.A3 r.out.length p.c3,.slice p.A4 r.calls.length p.c4,.int .i64 r.x]
structure RIn (p:Rp)(r:aii)(w:World):Prop where
 x:I64 r.x
 back:Sl ahV 1 w (Lw w) p.A0 r.back
 in':Sl ahV 1 w (Lw w) p.A1 r.in'
 ahead:Sl ahV 1 w (Lw w) p.A2 r.ahead
 out:Sl ahT 1 w (Lw w) p.A3 r.out
 calls:Sl air 2 w (Lw w) p.A4 r.calls
theorem RIn.below {p:Rp}{r:aii}{w w':World}(h:RIn p r w)(hb:Below w.heap.size w w'):RIn p r w':=⟨h.x,h.back.lw ahV.ok hb,h.in'.lw ahV.ok hb,h.ahead.lw ahV.ok hb,h.out.lw ahT.ok hb,h.calls.lw air.ok hb⟩
def Big (n:Nat):Prop:=n<=10000000000000
theorem aQ (w:World)(t:TypeId)(cs:Array Value):∃W,w.alloc (.cells cs t)=W/\Below w.heap.size w W/\Bk W w.heap.size t cs:=⟨_,rfl,(akl _ _).alloc (nr _) _,Bk.new _ _ _⟩
theorem Bk.bel {w w':World}{b:Nat}{t:TypeId}{cs:Array Value}(h:Bk w b t cs)(hb:Below w.heap.size w w'):Bk w' b t cs:=(hb.block b h.lt).trans h
theorem Bk.at {w w':World}{b:Nat}{t:TypeId}{cs:Array Value}(h:Bk w b t cs)(hb:Below w.heap.size w w')(i:Nat){v:Value}(hv:cs[i]? =some v):w'.cell? ⟨b,i,none⟩=some v:=by rw[(aj hb).1 _ _ h.lt,h.cell i,hv]
theorem XP (w:World)(A1 A2:Option Addr)(c1 c2:Nat)(pts:List Pt)(es:List Int)(h2:Sl ahT 1 w (Lw w) A2 es)(hl1:Big pts.length)(hl2:Big es.length):Calls Tryz.prog 152 #[.agg #[.slice A1 pts.length c1,.slice A2 es.length c2]] w (OkB w (kX 0 es pts.length)):=by
 obtain⟨P,HP⟩:∃P:Prop,Hid (P=(kX 0 es pts.length)):=⟨_,rfl⟩
 rw[<-HP.out];unfold Big at hl1 hl2;have H2:=hd0 h2;clear h2;go_enter Tryz.func152,Tryz.ntmps152
 obtain⟨W0,hW0,hb0,hk0⟩:=aQ w 53 #[.slice A1 pts.length c1,.slice A2 es.length c2];have HB0:=hd0 hb0;have HK0:=hd0 hk0;replace H2:=hd0 (H2.out.lw ahT.ok hb0);have k0:W0.cell? ⟨w.heap.size,0,none⟩=some (.slice A1 pts.length c1):=hk0.cell 0;have k1:W0.cell? ⟨w.heap.size,1,none⟩=some (.slice A2 es.length c2):=hk0.cell 1;have hz0:=hb0.size;clear hb0 hk0;go_wp2_with fail
 try rw[hW0]
 clear hW0;go_loopw [3,4] (fun l i wr=>∃(k:Nat) (last:Int),k<=es.length/\i= .int .i64 k/\l= .int .i64 last/\ -1<=last/\last<(pts.length:Int)+1/\Hid (∀tl,kX (last+1).toNat tl pts.length->kX 0 (es.take k++tl) pts.length)/\Below W0.heap.size W0 wr) (fun _ i _=>es.length - (intOf i).toNat)
 case atStart=>exact⟨0,-1,by omega,rfl,rfl,by omega,by omega,hd0 (fun tl h=>by simpa using h),akl _ _⟩
 case round=>
  obtain⟨k,last,hk,rfl,rfl,hl0,bz,hen,hbr⟩:=hrel;have mQ:=hd0 hbr;have x0:=HK0.out.at mQ.out 0 rfl;have x1:=HK0.out.at mQ.out 1 rfl;have oK:Hid (Below w.heap.size w wr):=hd0 (HB0.out.trans (hbr.mono hz0));clear hbr;by_cases hlt:k<es.length
  ·obtain⟨b,o,e,rfl,hb,hx,q0,r0⟩:=(H2.out.lw ahT.ok mQ.out).int hlt;clear hb r0;have Gm:Hid (0<=e->e<pts.length->last+2<=e->∀tl,kX (e+1).toNat tl pts.length->kX 0 (es.take (k+1)++tl) pts.length):=by intro a1 a2 a3 tl ht;rw[ak2,hx.out,aky];refine hen.out _ ?_;show kX _ (e::tl) _;exact⟨by omega,by omega,by rw[show e.toNat+1=(e+1).toNat by omega];exact ht⟩
   clear hx hen;by_cases h1:e<0
   ·have b1:decide (e<0)=true:=decide_eq_true h1;go_wp2_with fail
    go_quiet (fail)
    go_wp2_with fail
    go_ret
    exact OkB.bad (below_drewN oK.out _)
   have b1:decide (e<0)=false:=decide_eq_false h1;by_cases h2:(pts.length:Int)<=e
   ·have b2:decide ((pts.length:Int)<=e)=true:=decide_eq_true h2;go_wp2_with fail
    go_quiet (fail)
    go_wp2_with fail
    go_ret
    exact OkB.bad (below_drewN oK.out _)
   have b2:decide ((pts.length:Int)<=e)=false:=decide_eq_false h2;by_cases h3:e<last+2
   ·have b3:decide (e<last+2)=true:=decide_eq_true h3;go_wp2_with fail
    go_quiet (fail)
    go_wp2_with fail
    go_ret
    exact OkB.bad (below_drewN oK.out _)
   have b3:decide (e<last+2)=false:=decide_eq_false h3;have adP:=hd0 (Gm.out (by omega) (by omega) (by omega));go_wp2_with fail
   go_quiet (fail)
   go_wp2_with fail
   go_roundw
   case rel=>exact⟨k+1,e,by omega,by simp,rfl,by omega,by omega,adP,below_drewN mQ.out _⟩
   case measure=>simp[intOf];omega
  obtain rfl:k=es.length:=by omega
  by_cases he:last=(pts.length:Int) - 1
  ·have hg:P:=HP.out.mpr (by
    have:=hen.out [] (by show(last+1).toNat=pts.length;omega)
    rwa [akr,akR] at this)
   subst he;go_wp2_with fail
   go_ret
   exact OkB.good hg _ oK.out
  have e1:(last==(pts.length:Int) - 1)=false:=by simpa using he
  go_wp2_with fail
  go_ret
  exact OkB.bad oK.out
theorem In.of {n:Nat}{x:Int}(h0:¬x<0)(h1:¬(n:Int)<=x):In n x:=⟨by omega,by omega⟩
theorem U9 {l:List Int}{k:Nat}{x y:Int}(h:(l.take k).Pairwise (· < ·))(hy:l[k]? =some y)(hx:l[k - 1]? =some x)(hk:0<k)(hxy:x<y):(l.take (k+1)).Pairwise (· < ·):=by
 have hlt:=(akn.1 hy).1;have e1:l.take k=l.take (k - 1)++[x]:=by have:=ak2 (l:=l) (i:=k - 1);rw[hx,show k - 1+1=k by omega] at this;exact this
 rw[ak2,hy,List.pairwise_append];refine⟨h,by simp,fun a ha b hb=> ?_⟩;simp only[Option.toList_some,akm] at hb;subst hb;rw[e1,akq,akm] at ha;rw[e1,List.pairwise_append] at h;rcases ha with ha|rfl
 ·exact Int.lt_trans (h.2.2 a ha x (by simp)) hxy
 exact hxy
theorem Xg (w:World)(f:Fnt)(A1 A2 A3 A4 A5 A6 A7 A8:Option Addr)(c1 c2 c3 c4 c5 c6 c7 c8:Nat)(A:Option Addr)(c:Nat)(l:List Int)(h:Sl ahT 1 w (Lw w) A l)(hl:Big l.length)(hg:Big f.ahO.length):Calls Tryz.prog 178 #[.agg #[.int .i64 f.unit,.slice A1 f.ahO.length c1,.slice A2 f.chars.length c2,.slice A3 f.ahP.length c3,.slice A4 f.features.length c4,.slice A5 f.ahQ.length c5,.slice A6 f.regions.length c6,.slice A7 f.funcs.length c7,.slice A8 f.cvt.length c8],.slice A l.length c] w (OkB w (OkS f.ahO.length l)):=by
 obtain⟨P,HP⟩:∃P:Prop,Hid (P=(OkS f.ahO.length l)):=⟨_,rfl⟩
 rw[<-HP.out];unfold Big at hl hg;have H:=hd0 h;clear h;obtain⟨Wf,hWf,hbf,bW⟩:=aQ w 32 #[.int .i64 f.unit,.slice A1 f.ahO.length c1,.slice A2 f.chars.length c2,.slice A3 f.ahP.length c3,.slice A4 f.features.length c4,.slice A5 f.ahQ.length c5,.slice A6 f.regions.length c6,.slice A7 f.funcs.length c7,.slice A8 f.cvt.length c8];have aZ:Hid (Below w.heap.size w Wf):=hd0 hbf;have lg:=hd0 bW;go_enter Tryz.func178,Tryz.ntmps178
 have hz0:=hbf.size;clear hbf bW;go_wp2_with fail
 try rw[hWf]
 clear hWf;go_loopw [5] (fun i wr=>∃k:Nat,k<=l.length/\i= .int .i64 k/\Hid ((l.take k).Pairwise (· < ·)/\Up l k (In f.ahO.length))/\Below Wf.heap.size Wf wr) (fun i _=>l.length - (intOf i).toNat)
 case atStart=>exact⟨0,by omega,rfl,hd0 ⟨by simp,Up.zero _ _⟩,akl _ _⟩
 case round=>
  obtain⟨k,hk,rfl,hup,hbr⟩:=hrel;have mQ:=hd0 hbr;have x1:=lg.out.at mQ.out 1 rfl;have oK:Hid (Below w.heap.size w wr):=hd0 (aZ.out.trans (hbr.mono hz0));clear hbr;by_cases hlt:k<l.length
  ·obtain⟨b,o,e,rfl,hb,hx,q0,r0⟩:=(H.out.lw ahT.ok oK.out).int hlt;clear hb r0;by_cases h1:e<0
   ·have bh1:decide (e<0)=true:=decide_eq_true h1;go_wp2_with fail
    go_quiet (fail)
    go_wp2_with fail
    go_ret
    exact OkB.bad (below_drewN oK.out _)
   have bh1:decide (e<0)=false:=decide_eq_false h1;by_cases h2:(f.ahO.length:Int)<=e
   ·have mf:decide ((f.ahO.length:Int)<=e)=true:=decide_eq_true h2;go_wp2_with fail
    go_quiet (fail)
    go_wp2_with fail
    go_ret
    exact OkB.bad (below_drewN oK.out _)
   have mf:decide ((f.ahO.length:Int)<=e)=false:=decide_eq_false h2;by_cases hk0:k=0
   ·subst hk0;have dm:Hid ((l.take (0+1)).Pairwise (· < ·)/\Up l (0+1) (In f.ahO.length)):=hd0 ⟨by rw[ak2,hx.out];simp,hup.out.2.snoc hx.out (In.of h1 h2)⟩;have e0:((0:Nat):Int)=0:=rfl;simp only[Nat.add_zero] at q0;rw[e0];go_wp2_with fail
    go_quiet (fail)
    go_wp2_with fail
    go_roundw
    case rel=>exact⟨0+1,by omega,by simp,dm,below_drewN mQ.out _⟩
    case measure=>simp[intOf];omega
   obtain⟨j,rfl⟩:∃j,k=j+1:=⟨k - 1,by omega⟩
   have bk:decide (0<((j+1:Nat):Int))=true:=decide_eq_true (by omega);have ej:((j+1:Nat):Int) - 1=(j:Int):=by omega
   obtain⟨b',o',y,e',hb',hy,q1,r1⟩:=(H.out.lw ahT.ok oK.out).int (k:=j) (by omega);obtain⟨rfl,rfl⟩:b=b'/\o=o':=by simpa using e'
   clear hb' r1 e';by_cases h3:e<=y
   ·have kM:decide (e<=y)=true:=decide_eq_true h3;go_wp2_with fail
    go_quiet (fail)
    go_wp2_with fail
    go_ret
    exact OkB.bad (below_drewN oK.out _)
   have kM:decide (e<=y)=false:=decide_eq_false h3;have dm:=hd0 (show(l.take (j+1+1)).Pairwise (· < ·)/\Up l (j+1+1) (In f.ahO.length) from⟨U9 hup.out.1 hx.out (by exact hy.out) (by omega) (by omega),hup.out.2.snoc hx.out (In.of h1 h2)⟩);go_wp2_with fail
   go_quiet (fail)
   go_wp2_with fail
   go_roundw
   case rel=>exact⟨j+1+1,by omega,by simp,dm,below_drewN mQ.out _⟩
   case measure=>simp[intOf];omega
  obtain rfl:k=l.length:=by omega
  by_cases h0:l.length=0
  ·have b0:decide (0<(l.length:Int))=false:=decide_eq_false (by omega);go_wp2_with fail
   go_ret
   exact OkB.bad oK.out
  have b0:decide (0<(l.length:Int))=true:=decide_eq_true (by omega);have hg:P:=HP.out.mpr ⟨by have:=hup.out.1;rwa [akr] at this,fun x hx=>hup.out.2.all x hx⟩;go_wp2_with fail
  go_ret
  exact OkB.good hg _ oK.out
theorem Ug (w:World)(f:Fnt)(A1 A2 A3 A4 A5 A6 A7 A8:Option Addr)(c1 c2 c3 c4 c5 c6 c7 c8:Nat)(g:ahR)(B3 B4 B5 B6 B7 B8:Option Addr)(d3 d4 d5 d6 d7 d8:Nat)(h:Sl ah6 3 w (Lw w) B5 g.parts)(hl:Big g.parts.length)(hn:Big f.ahO.length):Calls Tryz.prog 154 #[.agg #[.int .i64 f.unit,.slice A1 f.ahO.length c1,.slice A2 f.chars.length c2,.slice A3 f.ahP.length c3,.slice A4 f.features.length c4,.slice A5 f.ahQ.length c5,.slice A6 f.regions.length c6,.slice A7 f.funcs.length c7,.slice A8 f.cvt.length c8],.agg #[.string ⟨g.name.toArray⟩,.int .i64 g.advance,.bool g.mark,.slice B3 g.points.length d3,.slice B4 g.ends.length d4,.slice B5 g.parts.length d5,.slice B6 g.anchors.length d6,.slice B7 g.deltas.length d7,.slice B8 g.hint.length d8]] w (OkE w (g.parts.length<=8/\∀p∈g.parts,In f.ahO.length p.ahU/\N9 p.x/\N9 p.y)):=by
 obtain⟨P,HP⟩:∃P:Prop,Hid (P=(g.parts.length<=8/\∀p∈g.parts,In f.ahO.length p.ahU/\N9 p.x/\N9 p.y)):=⟨_,rfl⟩
 rw[<-HP.out];unfold Big at*
 have H:=hd0 h;clear h;obtain⟨Wf,hWf,hbf,bW⟩:=aQ w 32 #[.int .i64 f.unit,.slice A1 f.ahO.length c1,.slice A2 f.chars.length c2,.slice A3 f.ahP.length c3,.slice A4 f.features.length c4,.slice A5 f.ahQ.length c5,.slice A6 f.regions.length c6,.slice A7 f.funcs.length c7,.slice A8 f.cvt.length c8];have aZ:Hid (Below w.heap.size w Wf):=hd0 hbf;have lg:=hd0 bW;obtain⟨Wg,oH,hbg,hkg⟩:=aQ Wf 59 #[.string ⟨g.name.toArray⟩,.int .i64 g.advance,.bool g.mark,.slice B3 g.points.length d3,.slice B4 g.ends.length d4,.slice B5 g.parts.length d5,.slice B6 g.anchors.length d6,.slice B7 g.deltas.length d7,.slice B8 g.hint.length d8];have dh:Hid (Below w.heap.size w Wg):=hd0 (aZ.out.trans (hbg.mono aZ.out.size));have ak:=hd0 hkg;have aH:Hid (Bk Wg w.heap.size 32 #[.int .i64 f.unit,.slice A1 f.ahO.length c1,.slice A2 f.chars.length c2,.slice A3 f.ahP.length c3,.slice A4 f.features.length c4,.slice A5 f.ahQ.length c5,.slice A6 f.regions.length c6,.slice A7 f.funcs.length c7,.slice A8 f.cvt.length c8]):=hd0 (Bk.bel bW hbg);go_enter Tryz.func154,Tryz.ntmps154
 have hzg:=dh.out.size;clear hbf bW hbg hkg lg;have n5:Wg.cell? ⟨Wf.heap.size,5,none⟩=some (.slice B5 g.parts.length d5):=ak.out.cell 5;by_cases hm:8<g.parts.length
 ·have bm:decide ((8:Int)<g.parts.length)=true:=decide_eq_true (by omega);go_wp2_with fail
  go_ret
  exact OkE.bad _ (by decide) dh.out
 have bm:decide ((8:Int)<g.parts.length)=false:=decide_eq_false (by omega);go_wp2_with fail
 try rw[hWf]
 try rw[oH]
 clear n5 oH hWf;go_loopw [5] (fun i wr=>∃k:Nat,k<=g.parts.length/\i= .int .i64 k/\Hid (Up g.parts k (fun p=>In f.ahO.length p.ahU/\N9 p.x/\N9 p.y))/\Below Wg.heap.size Wg wr) (fun i _=>g.parts.length - (intOf i).toNat)
 case atStart=>exact⟨0,by omega,rfl,hd0 (Up.zero _ _),akl _ _⟩
 case round=>
  obtain⟨k,hk,rfl,hup,hbr⟩:=hrel;have mQ:=hd0 hbr;have x5:=ak.out.at mQ.out 5 rfl;have oK:Hid (Below w.heap.size w wr):=hd0 (dh.out.trans (hbr.mono hzg));by_cases hlt:k<g.parts.length
  ·obtain⟨b,o,x,rfl,hb,hx,q0,q1,q2,r0,r1,r2⟩:=(H.out.lw ah6.ok oK.out).part hlt;obtain⟨W1,hW1,hb1,hk1⟩:=aQ wr 87 #[.int .i64 x.ahU,.int .i64 x.x,.int .i64 x.y];have HB1:Hid (Below Wg.heap.size Wg W1):=hd0 (hbr.trans (hb1.mono hbr.size));have ja:Hid (Below w.heap.size w W1):=hd0 (dh.out.trans (HB1.out.mono hzg));have y1:=aH.out.at HB1.out 1 rfl;have y5:=ak.out.at HB1.out 5 rfl;have p0:=hk1.cell 0;have p1:=hk1.cell 1;have p2:=hk1.cell 2;clear hb r0 r1 r2 hb1 hk1 hbr;by_cases h1:x.ahU<0
   ·have bh1:decide (x.ahU<0)=true:=decide_eq_true h1;go_wp2_with fail
    go_ret
    exact OkE.bad _ (by decide) ja.out
   have bh1:decide (x.ahU<0)=false:=decide_eq_false h1;by_cases h2:(f.ahO.length:Int)<=x.ahU
   ·have mf:decide ((f.ahO.length:Int)<=x.ahU)=true:=decide_eq_true h2;go_wp2_with fail
    go_ret
    exact OkE.bad _ (by decide) ja.out
   have mf:decide ((f.ahO.length:Int)<=x.ahU)=false:=decide_eq_false h2;by_cases h3:fO x.x=false
   ·go_wp2_with (first|(go_at_call 116;refine(dD _ _).mono ?_;rintro e w' ⟨rfl,rfl⟩))
    go_ret
    exact OkE.bad _ (by decide) ja.out
   have kM:fO x.x=true:=by simpa using h3
   by_cases h4:fO x.y=false
   ·go_wp2_with (first|(go_at_call 116;refine(dD _ _).mono ?_;rintro e w' ⟨rfl,rfl⟩))
    go_ret
    exact OkE.bad _ (by decide) ja.out
   have uK:fO x.y=true:=by simpa using h4
   have dm:=hd0 (hup.out.snoc hx.out ⟨In.of h1 h2,mg kM,mg uK⟩);go_wp2_with (first|(go_at_call 116;refine(dD _ _).mono ?_;rintro e w' ⟨rfl,rfl⟩))
   go_roundw
   case rel=>exact⟨k+1,by omega,by simp,dm,HB1.out⟩
   case measure=>simp[intOf];omega
  obtain rfl:k=g.parts.length:=by omega
  have hg:P:=HP.out.mpr ⟨by omega,fun x hx=>hup.out.all x hx⟩;clear hbr;go_wp2_with fail
  go_ret
  exact OkE.good hg oK.out
end
end Go.Proofs.YtkijckccfookeaaGreatDoor
