/- Lemmas. -/
import Derived.Test.YtkijckccfookeaaGreatDoorV23
set_option linter.unusedVariables false
set_option linter.unusedSimpArgs false
set_option maxRecDepth 100000
set_option maxHeartbeats 32000000
namespace Go.Proofs.YtkijckccfookeaaGreatDoor
open Go.RowKit
section
def aor (rv:Rows):Rows:=fun j=>if 8<=j/\j<=13 then RV.nil else rv j
theorem um (rv:Rows){j:Nat}(h:8<=j/\j<=13):aor rv j=RV.nil:=by rw[aor,if_pos h]
theorem qP (rv:Rows){j:Nat}(h:¬(8<=j/\j<=13)):aor rv j=rv j:=by rw[aor,if_neg h]
theorem Live.aor {w:World}{Bd:Nat}{rv:Rows}(h:Live w Bd rv):Live w Bd (aor rv):=by
 refine⟨fun j hj=> ?_,fun a b ha hb hab g=> ?_⟩
 ·by_cases hd:8<=j/\j<=13
  ·rw[um _ hd];exact World.ownsRow_nil w Bd _ _
  rw[qP _ hd];exact h.own j hj
 by_cases hd:8<=a/\a<=13
 ·rw[um _ hd];intro e;cases e
 rw[qP _ hd];by_cases hd2:8<=b/\b<=13
 ·rw[um _ hd2];intro _ e;cases e
 rw[qP _ hd2];exact h.apart a b ha hb hab g
theorem Tr.aor (w:World)(rv:Rows):Tr w rv w (aor rv):=
 ⟨Same.refl _ _,fun b ⟨cs,t,h1,h2,h3⟩=>⟨cs,t,h1,h2,fun j hj=>by
  by_cases hd:8<=j/\j<=13
  ·rw[um _ hd];intro e;cases e
  rw[qP _ hd];exact h3 j hj⟩⟩
theorem Live.fz6 {w:World}{Bd:Nat}{rv:Rows}(h:Live w Bd rv){i:Nat}(hi:8<=i/\i<=13):∀g,(rv i).v.ownBlock=some g->Fz w (Proofs.YtkijckccfookeaaGreatDoor.aor rv) g:=by
 intro g hg;obtain⟨cur,hb⟩:=bC (h.own i (by omega)) hg;refine⟨cur,kT i,hb,wu i,fun j hj=> ?_⟩;by_cases hd:8<=j/\j<=13
 ·rw[um _ hd];intro e;cases e
 rw[qP _ hd];exact h.apart i j (by omega) hj (fun e=>hd (e ▸ hi)) g hg
theorem Live.aoM {α:Type}{R:Rel α}(ok:R.Ok){w:World}{Bd:Nat}{rv:Rows}(h:Live w Bd rv){i:Nat}(hi:8<=i/\i<=13){size:Nat}(hs:kS i=size){xs:List α}(hf:aof R size w (Fz w rv) (rv i) xs):∃A c,(rv i).v= .slice A xs.length c/\Sl R size w (Fz w (Proofs.YtkijckccfookeaaGreatDoor.aor rv)) A xs:=by have ho:=h.own i (by omega);obtain⟨A,c,hv⟩:=gV ho;rw[hs,hv,hf.1] at ho;refine⟨A,c,by rw[hv,hf.1],Sl.aow ho ((Tr.aor w rv).fl ok hf.2) (fun g hg=>h.fz6 hi g ?_) (by rw[<-hs];exact Y0 i)⟩;rw[hv,hf.1];exact hg
section
variable {w w2:World} {Bd p gm cm:Nat} {gl:Gl} {s:PS} {rv:Rows} {K:Nat}
theorem GlD.told {gs:List anP}(hl:Live w Bd rv)(h:GlD w (Fz w rv) (rv 0) (rv 8) (rv 9) (rv 10) (rv 11) (rv 12) (rv 13) gs):Fl anS 9 w (Fz w (Proofs.YtkijckccfookeaaGreatDoor.aor rv)) (rv 0).xs gs:=by
 rcases h.2 with⟨rfl,e⟩|⟨init,g,ci,rfl,e2,h3,h4,h5,h6,h7,h8,h9,h10⟩
 ·rw[e];exact Fl.nil
 rw[e2];obtain⟨A3,c3,v3,s3⟩:=hl.aoM PtR.ok (i:=8) (by decide) rfl h5;obtain⟨A4,c4,v4,s4⟩:=hl.aoM anO.ok (i:=9) (by decide) rfl h6;obtain⟨A5,c5,v5,s5⟩:=hl.aoM aog.ok (i:=10) (by decide) rfl h7;obtain⟨A6,c6,v6,s6⟩:=hl.aoM an2.ok (i:=11) (by decide) rfl h8;obtain⟨A7,c7,v7,s7⟩:=hl.aoM an6.ok (i:=12) (by decide) rfl h9;obtain⟨A8,c8,v8,s8⟩:=hl.aoM an5.ok (i:=13) (by decide) rfl h10;rw[v3,v4,v5,v6,v7,v8];exact((Tr.aor w rv).fl anS.ok h4).snoc (R:=anS) ⟨A3,c3,A4,c4,A5,c5,A6,c6,A7,c7,A8,c8,rfl,h3,s3,s4,s5,s6,s7,s8⟩ rfl
theorem PSt.apj (h:PSt w Bd p gm cm gl s rv K){v':Value}{nm:B}{adv:Int}{mk:Bool}(hg:w.grownBy w2 (rv 0).v.ownBlock)
  (ho:w2.ownsRow Bd (kT 0) (kS 0) v' ((rv 0).n+1) ((rv 0).xs++[.string ⟨nm.toArray⟩,.int .i64 adv,.bool mk,.slice none 0 0,.slice none 0 0,.slice none 0 0,.slice none 0 0,.slice none 0 0,.slice none 0 0])) (hl:Loc w (rv 0).v v') (ha:I64 adv) {K':Nat} (hK:K+1<=K'):
  ∃rv',PSt (w2.setCell ⟨p,1,none⟩ v') Bd p gm cm gl {s with f:= {s.f with anL:=s.f.anL++[⟨nm,adv,mk,[],[],[],[],[],[]⟩]}} rv' K'/\KQ cm w (w2.setCell ⟨p,1,none⟩ v'):=by
 obtain⟨a1,a2,ht,a4,a5⟩:=h.row (i:=0) (by decide) (r:=⟨v',(rv 0).n+1,_⟩) hg ho hl;generalize hr0:(⟨v',(rv 0).n+1,(rv 0).xs++[.string ⟨nm.toArray⟩,.int .i64 adv,.bool mk,.slice none 0 0,.slice none 0 0,.slice none 0 0,.slice none 0 0,.slice none 0 0,.slice none 0 0]⟩:RV)=r0 at*
 have ht6:=ht.trans (Tr.aor w2 (upd rv 0 r0));have f6:=h.fnt.tr ht6;have hgl:GlD w2 (Fz w2 (upd rv 0 r0)) (rv 0) ((upd rv 0 r0) 8) ((upd rv 0 r0) 9) ((upd rv 0 r0) 10) ((upd rv 0 r0) 11) ((upd rv 0 r0) 12) ((upd rv 0 r0) 13) s.f.anL:=h.fnt.gly.tr ht;have hall:Fl anS 9 w2 (Fz w2 (Proofs.YtkijckccfookeaaGreatDoor.aor (upd rv 0 r0))) (rv 0).xs s.f.anL:=by
  rcases hgl.2 with⟨e0,e⟩|⟨init,g,ci,e1,e2,h3,h4,h5,h6,h7,h8,h9,h10⟩
  ·rw[e0,e];exact Fl.nil
  rw[e1,e2];obtain⟨A3,c3,v3,s3⟩:=a2.aoM PtR.ok (i:=8) (by decide) rfl h5;obtain⟨A4,c4,v4,s4⟩:=a2.aoM anO.ok (i:=9) (by decide) rfl h6;obtain⟨A5,c5,v5,s5⟩:=a2.aoM aog.ok (i:=10) (by decide) rfl h7;obtain⟨A6,c6,v6,s6⟩:=a2.aoM an2.ok (i:=11) (by decide) rfl h8;obtain⟨A7,c7,v7,s7⟩:=a2.aoM an6.ok (i:=12) (by decide) rfl h9;obtain⟨A8,c8,v8,s8⟩:=a2.aoM an5.ok (i:=13) (by decide) rfl h10;rw[v3,v4,v5,v6,v7,v8];exact((Tr.aor w2 (upd rv 0 r0)).fl anS.ok h4).snoc (R:=anS) ⟨A3,c3,A4,c4,A5,c5,A6,c6,A7,c7,A8,c8,rfl,h3,s3,s4,s5,s6,s7,s8⟩ rfl
 have f7:FD w2 (Fz w2 (Proofs.YtkijckccfookeaaGreatDoor.aor (upd rv 0 r0))) (Proofs.YtkijckccfookeaaGreatDoor.aor (upd rv 0 r0)) {s.f with anL:=s.f.anL++[⟨nm,adv,mk,[],[],[],[],[],[]⟩]} :=by
  refine⟨f6.unit,?_,f6.chr,f6.lks,f6.fts,f6.axs,f6.rgs,f6.fns,f6.cvt⟩;have k0:(Proofs.YtkijckccfookeaaGreatDoor.aor (upd rv 0 r0)) 0=r0:=rfl;rw[k0];refine⟨?_,.inr ⟨s.f.anL,⟨nm,adv,mk,[],[],[],[],[],[]⟩,(rv 0).xs,rfl,?_,ha,hall,aof.nil _ _ _ _,aof.nil _ _ _ _,aof.nil _ _ _ _,aof.nil _ _ _ _,aof.nil _ _ _ _,aof.nil _ _ _ _⟩⟩
  ·rw[<-hr0];show(rv 0).n+1=_;rw[h.fnt.gly.1];simp
  rw[<-hr0];rfl
 have hfew:∀j,j<15->(Proofs.YtkijckccfookeaaGreatDoor.aor (upd rv 0 r0) j).n<=K':=by
  intro j hj;by_cases hd:8<=j/\j<=13
  ·rw[um _ hd];exact nz _
  rw[qP _ hd];refine gz h.few (nt (aqA _ _) hK) ?_ j hj;rw[<-hr0];exact nt (aqF (h.few 0 (by decide)) 1) hK
 obtain⟨ff,q1,q2⟩:=a5;refine⟨Proofs.YtkijckccfookeaaGreatDoor.aor (upd rv 0 r0),PSt.apg (cs:=dW s rv gm cm) (s':= {s with f:= {s.f with anL:=s.f.anL++[⟨nm,adv,mk,[],[],[],[],[],[]⟩]}}) a1 a2.aor f7 a4 h.glI (aoF.tr ⟨ff,q1,q2⟩ (Tr.aor w2 (upd rv 0 r0)) rfl) hfew h.low 1 v' ?_,(KQ.live h.live (by decide) hg).trans (KQ.par a1 1 v')⟩;rw[<-hr0];rfl
theorem PSt.ao4 (h:PSt w Bd p gm cm gl s rv K){init:List Lookup}{l:Lookup}(hs:s.f.anM=init++[l]):
  ∃G c0 ci,(rv 2).v= .slice (some ⟨G,0,none⟩) (init.length+1) c0/\(rv 2).xs=ci++[.int .i64 l.kind,.bool l.aol,(rv 14).v]/\ci.length=init.length*3/\G<w.heap.size/\
   (∀j,j<3->w.cell? ⟨G,init.length*3+j,none⟩=[Value.int .i64 l.kind,.bool l.aol,(rv 14).v][j]?)/\(∀j,w.frozen? ⟨G,j,none⟩=false)/\(∃cur,Bk w G 72 cur):=by
 have hn:=h.fnt.lks.1;have ho:=h.live.own 2 (by decide);rcases h.fnt.lks.2 with⟨e,_⟩|⟨init',l',ci,e1,e2,e3,e4,-⟩
 ·rw[hs] at e;simp at e
 rw[hs] at e1;obtain⟨rfl,e1⟩:=List.append_inj' e1 rfl;obtain rfl:l=l':=by simpa using e1
 have hl:=e4.1;have hn2:(rv 2).n=init.length+1:=by rw[hn,hs];simp
 rcases ho.2 with⟨_,h2⟩|⟨G,cap,cur,h1,hb,hh,hnc,hm,hsz,htk⟩
 ·omega
 rw[hn2] at h1;refine⟨G,cap,ci,h1,e2,hl,(aqo.1 hh).1,fun j hj=> ?_,fun j=>Bk.frozen hh j,⟨cur,hh⟩⟩;rw[Bk.cell hh];have hlt:init.length*3+j<(rv 2).n*kS 2:=by rw[hn2];show _<(init.length+1)*3;omega
 have:(cur.toList.take ((rv 2).n*kS 2))[init.length*3+j]? =cur.toList[init.length*3+j]? :=by rw[aqP,if_pos hlt]
 rw[<-Array.getElem?_toList,<-this,htk,e2,aqI (by rw[hl];omega),hl,Nat.add_sub_cancel_left]
theorem PSt.apa (h:PSt w Bd p gm cm gl s rv K){v':Value}{kd:Int}{ig:Bool}(hg:w.grownBy w2 (rv 2).v.ownBlock)
  (ho:w2.ownsRow Bd (kT 2) (kS 2) v' ((rv 2).n+1) ((rv 2).xs++[.int .i64 kd,.bool ig,.slice none 0 0])) (hl:Loc w (rv 2).v v') (ha:I64 kd) {K':Nat} (hK:K+1<=K'):
  ∃rv',PSt (w2.setCell ⟨p,3,none⟩ v') Bd p gm cm gl {s with f:= {s.f with anM:=s.f.anM++[⟨kd,ig,[]⟩]}} rv' K'/\KQ cm w (w2.setCell ⟨p,3,none⟩ v'):=by
 obtain⟨a1,a2,ht,a4,a5⟩:=h.row (i:=2) (by decide) (r:=⟨v',(rv 2).n+1,_⟩) hg ho hl;generalize hr0:(⟨v',(rv 2).n+1,(rv 2).xs++[.int .i64 kd,.bool ig,.slice none 0 0]⟩:RV)=r0 at*
 have ht6:=ht.trans (Tr.drop w2 (upd rv 2 r0) 14);have f6:=h.fnt.tr ht6;have hlk:LkD w2 (Fz w2 (upd rv 2 r0)) (rv 2) ((upd rv 2 r0) 14) s.f.anM:=h.fnt.lks.tr ht;have hall:Fl anV 3 w2 (Fz w2 (upd (upd rv 2 r0) 14 RV.nil)) (rv 2).xs s.f.anM:=by
  rcases hlk.2 with⟨e0,e⟩|⟨init,l,ci,e1,e2,h3,h4,h5⟩
  ·rw[e0,e];exact Fl.nil
  rw[e1,e2];have JQ:=a2.own 14 (by decide);obtain⟨A,c,hv⟩:=gV JQ;rw[hv,h5.1] at JQ;rw[hv,h5.1];refine((Tr.drop w2 (upd rv 2 r0) 14).fl anV.ok h4).snoc (R:=anV) ⟨A,c,rfl,h3,Sl.aow JQ ((Tr.drop w2 (upd rv 2 r0) 14).fl an7.ok h5.2) (fun g hg=>a2.apP (i:=14) (by decide) g ?_) (by decide)⟩ rfl;rw[hv,h5.1];exact hg
 have f7:FD w2 (Fz w2 (upd (upd rv 2 r0) 14 RV.nil)) (upd (upd rv 2 r0) 14 RV.nil) {s.f with anM:=s.f.anM++[⟨kd,ig,[]⟩]} :=by
  refine⟨f6.unit,f6.gly,f6.chr,?_,f6.fts,f6.axs,f6.rgs,f6.fns,f6.cvt⟩;have k0:(upd (upd rv 2 r0) 14 RV.nil) 2=r0:=rfl;rw[k0];refine⟨?_,.inr ⟨s.f.anM,⟨kd,ig,[]⟩,(rv 2).xs,rfl,?_,ha,hall,aof.nil _ _ _ _⟩⟩
  ·rw[<-hr0];show(rv 2).n+1=_;rw[h.fnt.lks.1];simp
  rw[<-hr0];rfl
 have hfew:∀j,j<15->(upd (upd rv 2 r0) 14 RV.nil j).n<=K':=by refine gz (gz h.few (nt (aqA _ _) hK) ?_) (ag _) (nz _);rw[<-hr0];exact nt (aqF (h.few 2 (by decide)) 1) hK
 obtain⟨ff,q1,q2⟩:=a5;refine⟨upd (upd rv 2 r0) 14 RV.nil,PSt.apg (cs:=dW s rv gm cm) (s':= {s with f:= {s.f with anM:=s.f.anM++[⟨kd,ig,[]⟩]}}) a1 (a2.drop 14) f7 a4 h.glI (aoF.tr ⟨ff,q1,q2⟩ (Tr.drop w2 (upd rv 2 r0) 14) rfl) hfew h.low 3 v' ?_,(KQ.live h.live (by decide) hg).trans (KQ.par a1 3 v')⟩;rw[<-hr0];rfl
theorem PSt.apb (h:PSt w Bd p gm cm gl s rv K){init:List Lookup}{l:Lookup}(hs:s.f.anM=init++[l]){G n0 c0:Nat}(h0:(rv 2).v= .slice (some ⟨G,0,none⟩) n0 c0){v':Value}{cs:List Value}{y:aom}(hg:w.grownBy w2 (rv 14).v.ownBlock)(ho:w2.ownsRow Bd (kT 14) (kS 14) v' ((rv 14).n+1) ((rv 14).xs++cs))(hl:Loc w (rv 14).v v')
  (hf:Fl an7 6 w (Fz w rv) cs [y]) {K':Nat} (hK:K+1<=K'):
  ∃rv',PSt (w2.setCell ⟨G,init.length*3+2,none⟩ v') Bd p gm cm gl {s with f:= {s.f with anM:=init++[{l with rules:=l.rules++[y]}]}} rv' K'/\KQ cm w (w2.setCell ⟨G,init.length*3+2,none⟩ v')/\Below Bd w (w2.setCell ⟨G,init.length*3+2,none⟩ v'):=by
 have ht:Tr w rv w2 (upd rv 14 ⟨v',(rv 14).n+1,(rv 14).xs++cs⟩):=Tr.row (by decide) hg hl;obtain⟨a1,a2,-,a4,a5⟩:=h.row (i:=14) (by decide) (r:=⟨v',(rv 14).n+1,(rv 14).xs++cs⟩) hg ho hl;have k0:(upd rv 14 ⟨v',(rv 14).n+1,(rv 14).xs++cs⟩) 2=rv 2:=rfl;have ho0:=a2.own 2 (by decide);rw[k0,h0] at ho0;have hn0:n0=(rv 2).n:=by obtain⟨A9,c9,e⟩:=gV (h.live.own 2 (by decide));rw[h0] at e;simp only[arf] at e;exact e.2.1
 have hos:=uh (hn0 ▸ ho0) (init.length*3+2) v';rw[hn0] at h0;have hown0:(Value.slice (some ⟨G,0,none⟩) (rv 2).n c0).ownBlock=some G:=rfl;have hg2:w2.grownBy (w2.setCell ⟨G,init.length*3+2,none⟩ v') ((upd rv 14 ⟨v',(rv 14).n+1,(rv 14).xs++cs⟩) 2).v.ownBlock:=by rw[k0,h0,hown0];exact dF w2 ⟨G,_,none⟩ v'
 rw[<-h0] at hos;have hl2:Loc w2 ((upd rv 14 ⟨v',(rv 14).n+1,(rv 14).xs++cs⟩) 2).v (rv 2).v:= .inl rfl;have b2:=a2.row (i:=2) (by decide) (r:=⟨(rv 2).v,(rv 2).n,(rv 2).xs.set (init.length*3+2) v'⟩) hg2 hos hl2;have ht2:Tr w2 (upd rv 14 ⟨v',(rv 14).n+1,(rv 14).xs++cs⟩) (w2.setCell ⟨G,init.length*3+2,none⟩ v') (upd (upd rv 14 ⟨v',(rv 14).n+1,(rv 14).xs++cs⟩) 2 ⟨(rv 2).v,(rv 2).n,(rv 2).xs.set (init.length*3+2) v'⟩):=Tr.row (by decide) hg2 hl2;have f2:=(h.fnt.tr ht).tr' ht2;have zi:G≠p:=fun e=>by
  obtain⟨cur,hb⟩:=bC (h.live.own 2 (by decide)) (g:=G) (by rw[h0];rfl);subst e;have:=(bY hb h.par).1
  revert this
  decide
 have qN:∀b es c,w2.heap[b]? =some (Obj.map es c)->b≠G:=fun b es c hb e=>by
  subst e;obtain⟨cur,hk⟩:=bC ho0 (g:=b) rfl;unfold Bk at hk;rw[hb] at hk;cases hk
 obtain⟨e1,c1,m1⟩:=a4.isMap;obtain⟨ff,q1,q2⟩:=a5;obtain⟨e2,c2,m2⟩:=q1.isMap;refine⟨upd (upd rv 14 ⟨v',(rv 14).n+1,(rv 14).xs++cs⟩) 2 ⟨(rv 2).v,(rv 2).n,(rv 2).xs.set (init.length*3+2) v'⟩,?_,?_,?_⟩
 ·refine {par:= ?_,live:=b2,fnt:=⟨f2.unit,f2.gly,f2.chr,?_,f2.fts,f2.axs,f2.rgs,f2.fns,f2.cvt⟩,gmp:=a4.keep (Below.heap_setCell _ _ _ _ (qN _ _ _ m1)),glI:=h.glI,cls:=aoF.tr ⟨ff,q1,q2⟩ ht2 (Below.heap_setCell _ _ _ _ (qN _ _ _ m2)),few:=gz (gz h.few (nt (aqA _ _) hK) (nt (aqF (h.few 14 (by decide)) 1) hK)) (ag _) (nt (h.few 2 (by decide)) (nt (aqA _ _) hK)),low:=h.low}
  ·exact Bk.far a1 (fun e=>zi e.symm) _
  obtain⟨g1,g2⟩:=h.fnt.lks;refine⟨by show(rv 2).n=_;rw[g1,hs];simp,.inr ?_⟩;rcases g2 with⟨e,_⟩|⟨init',l',ci,e1,e2,h3,h4,h5⟩
  ·rw[hs] at e;simp at e
  rw[hs] at e1;obtain⟨rfl,e1⟩:=List.append_inj' e1 rfl;obtain rfl:l=l':=by simpa using e1
  refine⟨init,_,ci,rfl,?_,h3,ht2.fl anV.ok (ht.fl anV.ok h4),((h5.tr an7.ok ht).app rfl rfl (ht.fl an7.ok hf)).tr an7.ok ht2⟩;show(rv 2).xs.set (init.length*3+2) v'=_;rw[e2,qE ci _ 2 _ _ h4.1];rfl
 ·exact(KQ.live h.live (i:=14) (by decide) hg).trans (KQ.live a2 (i:=2) (by decide) hg2)
 refine((aqk Bd w).grown hg h.size (fun g e=>((h.live.own 14 (by decide)).lt g e).1)).setCell ?_ _;exact((h.live.own 2 (by decide)).lt G (by rw[h0];rfl)).1
end
end
section
attribute [-go_sem] Builtin.append_
theorem uw (s:PS)(h:anP->anP){init:List anP}{g:anP}(hs:s.f.anL=init++[g]):nY s h= {s with f:= {s.f with anL:=init++[h g]}} :=by unfold nY;rw[hs];simp
theorem xI {s:PS}{init:List anP}{g:anP}(hs:s.f.anL=init++[g]):s.f.anL≠[]:=by rw[hs];simp
theorem Yx (w:World)(S:Bs)(l:List Ins)(h:∀x∈l,I64 x.op/\I64 x.a):Fl an5 2 w S (qC l) l:=by
 induction l with
 |nil=>exact Fl.nil
 |cons x r ih=>exact(Fl.one (R:=an5) (cs:=[.int .i64 x.op,.int .i64 x.a]) ⟨rfl,(h x (by simp)).1,(h x (by simp)).2⟩ rfl).append (ih (fun y hy=>h y (by simp[hy])))
theorem aed (t:B):I64 (qW t):=by
 unfold qW;split
 ·have:=List.findIdx_le_length (p:=(· ==t)) (xs:=opNames);rw[yL] at this;exact⟨by omega,by omega⟩
 exact⟨by decide,by decide⟩
theorem U0 (l:List B):∀x∈l.map jP,I64 x.op/\I64 x.a:=by
 intro x hx;rw[aqQ] at hx;obtain⟨t,_,rfl⟩:=hx;refine⟨aed _,?_⟩;have:(jP t).a=if t.contains 58 then aI (dM 58 t) else 0:=rfl
 rw[this];split
 ·exact dI _
 exact⟨by decide,by decide⟩
theorem ahm (w:World)(S:Bs)(l:List Pt)(h:∀x∈l,I64 x.x/\I64 x.y):Fl PtR 3 w S (Cb l) l:=by
 induction l with
 |nil=>exact Fl.nil
 |cons x r ih=>exact(Fl.one (R:=PtR) (cs:=[.int .i64 x.x,.int .i64 x.y,.bool x.on]) ⟨rfl,(h x (by simp)).1,(h x (by simp)).2⟩ rfl).append (ih (fun y hy=>h y (by simp[hy])))
theorem adm (l:List B):∀x∈l.map qJ,I64 x.x/\I64 x.y:=by intro x hx;rw[aqQ] at hx;obtain⟨t,_,rfl⟩:=hx;exact⟨dI _,dI _⟩
theorem Qx (l:List Ins):∀u∈qC l,u.oneCell'=true:=by intro u hu;simp only[qC,aqZ,aqx,aqV,or_false] at hu;obtain⟨x,_,rfl|rfl⟩:=hu<;>rfl
theorem adU (l:List Pt):∀u∈Cb l,u.oneCell'=true:=by intro u hu;simp only[Cb,aqZ,aqx,aqV,or_false] at hu;obtain⟨x,_,rfl|rfl|rfl⟩:=hu<;>rfl
theorem PSt.fresh {w w2:World}{Bd p gm cm:Nat}{gl:Gl}{s:PS}{rv:Rows}{K:Nat}(h:PSt w Bd p gm cm gl s rv K){base e size n c:Nat}{A:Option Addr}{xs:List Value}(ho:w2.ownsRow base e size (.slice A n c) n xs)(hb:w.heap.size<=base)(hd:lK e=true):∀g,(Value.slice A n c).ownBlock=some g->Fz w2 rv g:=by intro g hg;obtain⟨cur,hk⟩:=bC ho hg;refine⟨cur,e,hk,hd,fun j hj e'=> ?_⟩;have h1:=((h.live.own j hj).lt g e').2;have h2:=(ho.lt g hg).1;omega
theorem ZZ (gl:Gl)(s:PS)(l:List B)(h:l.length≠3):oL gl s l= .error 22:=by
 unfold oL;split
 ·rfl
 split
 ·simp at h
 rfl
theorem SY (w:World)(Bd p gm cm:Nat)(gl:Gl)(s:PS)(rv:Rows)(K:Nat)(A:Option Addr)(n c:Nat)(ws:List P3)(t:B)(l:List B)(hP:PSt w Bd p gm cm gl s rv K)(hL:aok w A n ws)(hT:ah ws=t::l)(hK:K<=10000000000){init:List anP}{g:anP}(hs:s.f.anL=init++[g]){G n0 c9 q:Nat}(h0:(rv 0).v= .slice (some ⟨G,0,none⟩) n0 c9)(hq:q=init.length*9):
  Calls Tryz.prog 82 #[.pointer (some ⟨p,0,none⟩),.slice A n c,.pointer (some ⟨G,q,none⟩)] w (anQ w Bd p gm cm gl (K+n) (oL gl s l)):=by
 have hn:n=l.length+1:=by rw[<-hL.length];exact dG hT
 have hB:=hP.size;by_cases h1:l.length=3
 ·obtain⟨t1,t2,t3,rfl⟩:∃t1 t2 t3,l=[t1,t2,t3]:=by
   match l,h1 with
   |[a1,a2,a3],_=>exact⟨a1,a2,a3,rfl⟩
  obtain⟨b,o,rfl,hb,q1,hz1⟩:=hL.word (k:=1) (t:=t1) (by rw[hT];rfl) (d:=3) rfl;obtain⟨b',o',e',-,q2,hz2⟩:=hL.word (k:=2) (t:=t2) (by rw[hT];rfl) (d:=6) rfl;obtain⟨rfl,rfl⟩:b=b'/\o=o':=by simpa using e'
  clear e';obtain⟨b',o',e',-,q3,hz3⟩:=hL.word (k:=3) (t:=t3) (by rw[hT];rfl) (d:=9) rfl;obtain⟨rfl,rfl⟩:b=b'/\o=o':=by simpa using e'
  clear e';simp only[ay,ln] at hn;subst hn;have HP:=hd0 hP;obtain⟨G',c9',ci,gv,-,-,hGb,jS,Bc,uM⟩:=hP.aoz hs;obtain⟨rfl,hn0,rfl⟩:G'=G/\init.length+1=n0/\c9'=c9:=by rw[gv] at h0;simpa using h0
  have hpb:G'<w.heap.size:=hGb;obtain⟨A0,c0,hv⟩:=hP.slice (i:=10) (by decide);have kp:w.cell? ⟨G',q+5,none⟩=some (rv 10).v:=by rw[hq];exact jS 5 (by decide)
  rw[hv] at kp;have fp:=Bc (q+5);have hfew:=hP.few 10 (by decide);have HR:Hid (oL gl s [t1,t2,t3]=fin (aT (aT (jE gl 0 t1) t2) t3) {s with f:= {s.f with anL:=init++[{g with parts:=g.parts++[⟨fM gl t1,aI t2,aI t3⟩]}]}}):=by show _=_;unfold oL;rw[if_neg (xI hs)];simp only;rw[uw s _ hs]
  have Hs:=hd0 hs;have Hq:=hd0 hq;have H0:=hd0 h0;have uQ:=hd0 uM;have qL:=hd0 (fun w rb er h hm=>zZ w rb p gm gl er t1 h hm);have HI1:=hd0 (D8 hP.glI t1);have rV:=hd0 (fun w rb er h=>dP w rb p er t2 h hz2);have HI2:=hd0 (dI t2);have AP:=hd0 (fun w rb er h=>dP w rb p er t3 h hz3);have HI3:=hd0 (dI t3);generalize fM gl t1=v1 at*
  generalize aI t2=v2 at*
  generalize aI t3=v3 at*
  clear hP hL hT h1 hz1 hz2 hz3 hs hq h0 gv jS Bc uM hn0;go_enter Tryz.func82,Tryz.ntmps82
  go_wp2_with fail
  refine(gu w p).mono ?_;rintro e w1 ⟨rfl,hr1,hb1⟩;obtain⟨hc1,hf1⟩:=af hb1;have QF:w1.cell? ⟨b,o+3+2,none⟩=some (.string ⟨t1.toArray⟩):=(hc1 _ _ hb).trans q1;have hl1:=hr1.lt;have hs1:=hb1.size;have hbl:b<w1.heap.size:=by omega
  have hbc:b≠w1.heap.size:=by omega
  have hpc:G'≠w1.heap.size:=by omega
  have kW:=hd0 (hr1.alloc (.cells #[.int .i64 0,.int .i64 0,.int .i64 0] 87));have Hb1:=hd0 (hb1.alloc hs1 (.cells #[.int .i64 0,.int .i64 0,.int .i64 0] 87));have oO:Hid (Bk (w1.alloc (.cells #[.int .i64 0,.int .i64 0,.int .i64 0] 87)) w1.heap.size 87 #[.int .i64 0,.int .i64 0,.int .i64 0]):=Bk.new _ _ _;clear hr1 hb1;go_wp2_with fail
  refine(qL.out _ _ _ (by exact kW.out) (by exact(HP.out.below Hb1.out).at.gm)).mono ?_;rintro e w2 ⟨rfl,hr2,hg2⟩;have hb2:=bz Hb1.out hg2 (ag _);obtain⟨hc2,hf2⟩:=af hb2;have hk2:Bk w2 w1.heap.size 87 #[.int .i64 0,.int .i64 0,.int .i64 0]:=Bk.kept2 hg2 oO.out (by omega);have BM:w2.cell? ⟨w1.heap.size,0,none⟩=some (.int .i64 0):=hk2.cell 0;have afs:w2.cell? ⟨w1.heap.size,1,none⟩=some (.int .i64 0):=hk2.cell 1;have ajb:w2.cell? ⟨w1.heap.size,2,none⟩=some (.int .i64 0):=hk2.cell 2;have y2:=hk2.frozen 0;have hs2:=hk2.lt;have WG:w2.cell? ⟨b,o+6+2,none⟩=some (.string ⟨t2.toArray⟩):=(hc2 _ _ hb).trans q2;have ajM:w2.cell? ⟨b,o+9+2,none⟩=some (.string ⟨t3.toArray⟩):=(hc2 _ _ hb).trans q3;have lT:Hid (Rdr (w2.setCell ⟨w1.heap.size,0,none⟩ (.int .i64 v1)) w.heap.size p (jE gl 0 t1)):=Bk.far hr2 (by simp;omega) _;have Hb2:=hd0 (hb2.setCell (p:=⟨w1.heap.size,0,none⟩) (by simp;omega) (.int .i64 v1));have fC:Hid (Bk (w2.setCell ⟨w1.heap.size,0,none⟩ (.int .i64 v1)) w1.heap.size 87 #[.int .i64 v1,.int .i64 0,.int .i64 0]):=hk2.set 0 _;clear hr2 hg2 hb2 hk2 hc1 hf1;go_wp2_with fail
  refine(rV.out _ _ _ (by exact lT.out)).mono ?_;rintro e w3 ⟨rfl,hr3,hg3⟩;have hb3:=bz Hb2.out hg3 (ag _);obtain⟨hc3,hf3⟩:=af hb3;have hk3:Bk w3 w1.heap.size 87 #[.int .i64 v1,.int .i64 0,.int .i64 0]:=Bk.kept2 hg3 fC.out (by omega);have aab:w3.cell? ⟨w1.heap.size,0,none⟩=some (.int .i64 v1):=hk3.cell 0;have EX:w3.cell? ⟨w1.heap.size,1,none⟩=some (.int .i64 0):=hk3.cell 1;have ain:w3.cell? ⟨w1.heap.size,2,none⟩=some (.int .i64 0):=hk3.cell 2;have y3:=hk3.frozen 1;have hs3:=hk3.lt;have aiw:w3.cell? ⟨b,o+9+2,none⟩=some (.string ⟨t3.toArray⟩):=(hc3 _ _ hb).trans q3;have lY:Hid (Rdr (w3.setCell ⟨w1.heap.size,1,none⟩ (.int .i64 v2)) w.heap.size p (aT (jE gl 0 t1) t2)):=Bk.far hr3 (by simp;omega) _;have Hb3:=hd0 (hb3.setCell (p:=⟨w1.heap.size,1,none⟩) (by simp;omega) (.int .i64 v2));have jI:Hid (Bk (w3.setCell ⟨w1.heap.size,1,none⟩ (.int .i64 v2)) w1.heap.size 87 #[.int .i64 v1,.int .i64 v2,.int .i64 0]):=hk3.set 1 _;clear hr3 hg3 hb3 hk3 hc2 hf2;go_wp2_with fail
  refine(AP.out _ _ _ (by exact lY.out)).mono ?_;rintro e w4 ⟨rfl,hr4,hg4⟩;have hb4:=bz Hb3.out hg4 (ag _);obtain⟨hc4,hf4⟩:=af hb4;have hk4:Bk w4 w1.heap.size 87 #[.int .i64 v1,.int .i64 v2,.int .i64 0]:=Bk.kept2 hg4 jI.out (by omega);have afQ:w4.cell? ⟨w1.heap.size,0,none⟩=some (.int .i64 v1):=hk4.cell 0;have aiq:w4.cell? ⟨w1.heap.size,1,none⟩=some (.int .i64 v2):=hk4.cell 1;have aj0:w4.cell? ⟨w1.heap.size,2,none⟩=some (.int .i64 0):=hk4.cell 2;have y4:=hk4.frozen 2;have hs4:=hk4.lt;have Y7:Hid (Rdr (w4.setCell ⟨w1.heap.size,2,none⟩ (.int .i64 v3)) w.heap.size p (aT (aT (jE gl 0 t1) t2) t3)):=Bk.far hr4 (by simp;omega) _;have Hb4:=hd0 (hb4.setCell (p:=⟨w1.heap.size,2,none⟩) (by simp;omega) (.int .i64 v3));have Zo:Hid (Bk (w4.setCell ⟨w1.heap.size,2,none⟩ (.int .i64 v3)) w1.heap.size 87 #[.int .i64 v1,.int .i64 v2,.int .i64 v3]):=hk4.set 2 _;clear hr4 hg4 hb4 hk4 hc3 hf3;go_wp2_with fail
  obtain⟨W1,hW1⟩:∃W1,w4.setCell ⟨w1.heap.size,2,none⟩ (.int .i64 v3)=W1:=⟨_,rfl⟩
  rw[hW1];have Hr:=Y7;have Hb:=Hb4;have eX:=Zo;rw[hW1] at Hr Hb eX;have vC:W1.cell? ⟨w1.heap.size,0,none⟩=some (.int .i64 v1):=eX.out.cell 0;have xE:W1.cell? ⟨w1.heap.size,1,none⟩=some (.int .i64 v2):=eX.out.cell 1;have AZ:W1.cell? ⟨w1.heap.size,2,none⟩=some (.int .i64 v3):=eX.out.cell 2;have aO:=HP.out.below Hb.out;have xX:W1.cell? ⟨G',q+5,none⟩=some (.slice A0 (rv 10).n c0):=((af Hb.out).1 _ _ hpb).trans kp;have zp:G'<W1.heap.size:=aqu hpb Hb.out.size;have zc:w1.heap.size<W1.heap.size:=eX.out.lt;have zr:w.heap.size<W1.heap.size:=Hr.out.lt;have hown:=aO.live.own 10 (by decide);rw[hv] at hown;obtain⟨A5,c5,w9,hrun,aZ,aB,bD⟩:=iw ZB 54 W1 Bd _ c0 A0 _ #[.int .i64 v1,.int .i64 v2,.int .i64 v3] rfl hown (by simp[Value.oneCell']) (by omega) (by omega);rw[<-hv] at aB bD;have bT:∃cur,Bk w9 G' 59 cur/\cur[q+5]? =some (rv 10).v:=by obtain⟨cur,di⟩:=uQ.out;have h1:Bk w9 G' 59 cur:=Bk.grown (di.keep (Hb.out.block G' hpb)) aB (aO.live.own 10 (by decide)) (by decide);exact⟨cur,h1,by rw[<-di.cell,kp,hv]⟩
  obtain⟨J8,bT,sU⟩:=bT;have jB:=Bk.grown Hr.out aB (aO.live.own 10 (by decide)) (by decide);have x9:w9.cell? ⟨G',q+5,none⟩=some (rv 10).v:=(bT.cell _).trans sU;have y9:=bT.frozen (q+5);have z9:w9.cell? ⟨w.heap.size,1,none⟩=some (.int .i64 (aT (aT (jE gl 0 t1) t2) t3)):=jB.cell 1;generalize her:aT (aT (jE gl 0 t1) t2) t3=er at*
  have bP:=hd0 (PSt.apr (m:=1) (K':=K+n9 3) aO Hs.out H0.out aB aZ bD (ys:=[⟨v1,v2,v3⟩]) rfl (Fl.one (R:=aog) (⟨rfl,HI1.out,HI2.out,HI3.out⟩) rfl) (by unfold n9;simp));rw[<-Hq.out] at bP;have ik:=hd0 (Hb.out.mono hB);have HQ:=hd0 (KQ.below (cm:=cm) Hb.out);clear hW1 hown aZ aB bD bT jB aO;go_region
  all_goals
   go_wp2;go_ret
   obtain⟨rv',g1,g2,g3,-⟩:=bP.out;exact anQ.fin HR.out (ik.out.trans g3) (HQ.out.trans g2) g1
 have HR:=hd0 (ZZ gl s l h1);have e1:((n:Int)==4)=false:=by simp;omega
 have e2:((n:Int) !=4)=true:=by simp;omega
 clear hP hL hT h1 hn hs h0 hq;go_enter Tryz.func82,Tryz.ntmps82
 go_wp2;go_ret
 exact anQ.bad HR.out (aqk _ _)
theorem Si (w:World)(Bd p gm cm:Nat)(gl:Gl)(s:PS)(rv:Rows)(K:Nat)(A:Option Addr)(n c:Nat)(ws:List P3)(t:B)(l:List B)(hP:PSt w Bd p gm cm gl s rv K)(hL:aok w A n ws)(hT:ah ws=t::l)(hK:K<=10000000000)(hc:n<=c)(fF:aoi w)(ng:nT<=Bd){init:List anP}{g:anP}(hs:s.f.anL=init++[g]){G n0 c9 q:Nat}(h0:(rv 0).v= .slice (some ⟨G,0,none⟩) n0 c9)(hq:q=init.length*9):
  Calls Tryz.prog 85 #[.pointer (some ⟨p,0,none⟩),.slice A n c,.pointer (some ⟨G,q,none⟩)] w (anQ w Bd p gm cm gl (K+n) (oI s l)):=by
 have hn:n=l.length+1:=by rw[<-hL.length];exact dG hT
 have hB:=hP.size;have hnn:=hL.few;obtain⟨A',hsub,hrd,hlen⟩:=hL.sub hc 1 1 rfl (by omega);have nV:=hd0 (Lh w A' (n - 1) (c - 1) (ws.drop 1) hrd hlen (by omega));have hall:(ws.drop 1).all (fun x=>PR x.2.2)=yg l:=by rw[AB,jF hT];rfl
 rw[hall] at nV;cases hok:yg l with
 |false=>
  rw[hok] at nV;have HR:Hid (oI s l= .error 22):=by show _=_;unfold oI;rw[if_neg (xI hs),if_pos hok]
  clear hok hall hP hL hT hrd hlen fF hn hs h0 hq;go_enter Tryz.func85,Tryz.ntmps85
  go_wp2_with (go_at_call 125;refine nV.out.mono ?_;rintro e w1 ⟨rfl,hb1⟩)
  go_ret
  exact anQ.bad HR.out (hb1.mono hB)
 |true=>
  rw[hok] at nV;have HP:=hd0 hP;have HTb:=hd0 fF;obtain⟨G',c9',ci,gv,-,-,hGb,jS,Bc,uM⟩:=hP.aoz hs;obtain⟨rfl,hn0,rfl⟩:G'=G/\init.length+1=n0/\c9'=c9:=by rw[gv] at h0;simpa using h0
  have hpb:G'<w.heap.size:=hGb;obtain⟨A0,c0,hv⟩:=hP.slice (i:=13) (by decide);have kp:w.cell? ⟨G',q+8,none⟩=some (rv 13).v:=by rw[hq];exact jS 8 (by decide)
  rw[hv] at kp;have hfew:=hP.few 13 (by decide);have HR:Hid (oI s l=fin (l.foldl rC 0) {s with f:= {s.f with anL:=init++[{g with hint:=g.hint++l.map jP}]}}):=by show _=_;unfold oI;rw[if_neg (xI hs),if_neg (by rw[hok];simp),uw s _ hs]
  have Hs:=hd0 hs;have Hq:=hd0 hq;have H0:=hd0 h0;have uQ:=hd0 uM;have hns:=hd0 (fun w1 rb (hr:Rdr w1 rb p 0) (hb:Below w.heap.size w w1) (di:w.heap.size<=rb)=>X6 w1 rb p 0 A' (n - 1) (c - 1) (ws.drop 1) (HTb.out.below hb) (nt ng (nt hB di)) hr (hrd.below hb) hlen (by omega));rw[jF hT] at hns;have hll:l.length=n - 1:=by omega
  have hfl:=hd0 (fun(w:World) S=>Yx w S (l.map jP) (U0 l));have hlm:Hid (n - 1=(l.map jP).length):=by show _=_;simp[hll]
  have hone:=hd0 (Qx (l.map jP));have afB:n - 1<=n:=by omega
  have hn1:1<=n:=by omega
  clear hP hL hT hrd hlen hll hn fF hall hok hs h0 hq gv jS Bc uM hn0;go_enter Tryz.func85,Tryz.ntmps85
  go_wp2_with (go_at_call 125;refine nV.out.mono ?_;rintro e w0 ⟨rfl,hb0⟩)
  go_wp2_with fail
  refine(gu w0 p).mono ?_;rintro e w1 ⟨rfl,hr1,Dq⟩;have hb1:Below w.heap.size w w1:=hb0.trans (Dq.mono hb0.size);have k1:w1.cell? ⟨G',q+8,none⟩=some (.slice A0 (rv 13).n c0):=((af hb1).1 _ _ hpb).trans kp;have k1d:w1.drew.cell? ⟨G',q+8,none⟩=some (.slice A0 (rv 13).n c0):=k1;have hz0:=hb0.size;have hz1:=hb1.size;have hlr:=hr1.lt;have kW:=hd0 hr1;have Hb1:=hd0 hb1;clear hr1 hb1 hb0 Dq;go_wp2_with fail
  go_region_with (go_at_call 126;refine(hns.out _ _ (by exact kW.out) (by exact Hb1.out.drew) hz0).mono ?_;rintro e w2 ⟨v,rfl,A4,c4,rfl,iZ,hr4,hg4⟩;have hb2:=bz Hb1.out.drew hg4 hz0;have aO:=HP.out.below hb2;have hown:=aO.live.own 13 (by decide);rw[hv] at hown;have Dv:=(kH iZ).rd;obtain⟨A5,c5,w9,hrun,aZ,aB,bD⟩:=EY Ea 57 w2 Bd _ c0 A0 _ _ A4 (n - 1) c4 _ hown Dv hone.out (by omega) aO.size;have k2:w2.cell? ⟨G',q+8,none⟩=some (.slice A0 (rv 13).n c0):=((af hb2).1 _ _ hpb).trans kp;rw[<-hv] at aB bD;obtain⟨J8,bT,sU⟩:∃cur,Bk w9 G' 59 cur/\cur[q+8]? =some (rv 13).v:=(by obtain⟨cur,di⟩:=uQ.out;exact⟨cur,Bk.grown (di.keep (hb2.block G' hpb)) aB (aO.live.own 13 (by decide)) (by decide),by rw[<-di.cell,kp,hv]⟩);have jB:=Bk.grown hr4 aB (aO.live.own 13 (by decide)) (by decide);have x9:w9.cell? ⟨G',q+8,none⟩=some (rv 13).v:=(bT.cell _).trans sU;have y9:=bT.frozen (q+8);have z9:w9.cell? ⟨w0.heap.size,1,none⟩=some (.int .i64 (l.foldl rC 0)):=jB.cell 1;have bP:=hd0 (PSt.apw (m:=n - 1) (K':=K+n) aO Hs.out H0.out aB aZ bD hlm.out (hfl.out _ _) (by omega));rw[<-Hq.out] at bP;have ik:=hd0 (hb2.mono hB);have HQ:=hd0 (KQ.below (cm:=cm) hb2);clear hown aZ aB bD bT jB aO hb2 iZ hr4 hg4 Dv)
  all_goals
   go_wp2;go_ret
   obtain⟨rv',g1,g2,g3,-⟩:=bP.out;exact anQ.fin HR.out (ik.out.trans g3) (HQ.out.trans g2) g1
theorem Sm (w:World)(Bd p gm cm:Nat)(gl:Gl)(s:PS)(rv:Rows)(K:Nat)(A:Option Addr)(n c:Nat)(ws:List P3)(t:B)(l:List B)(hP:PSt w Bd p gm cm gl s rv K)(hL:aok w A n ws)(hT:ah ws=t::l)(hK:K<=10000000000)(hc:n<=c)(fF:aoi w)(ng:nT<=Bd):
  Calls Tryz.prog 77 #[.pointer (some ⟨p,0,none⟩),.slice A n c] w (anQ w Bd p gm cm gl (K+n) (rD s l)):=by
 have hn:n=l.length+1:=by rw[<-hL.length];exact dG hT
 have hB:=hP.size;have hnn:=hL.few;obtain⟨A',hsub,hrd,hlen⟩:=hL.sub hc 1 1 rfl (by omega);have nV:=hd0 (Lh w A' (n - 1) (c - 1) (ws.drop 1) hrd hlen (by omega));have hall:(ws.drop 1).all (fun x=>PR x.2.2)=yg l:=by rw[AB,jF hT];rfl
 rw[hall] at nV;cases hok:yg l with
 |false=>
  rw[hok] at nV;have HR:Hid (rD s l= .error 22):=by show _=_;unfold rD;rw[if_pos hok]
  clear hok hall hP hL hT hrd hlen fF hn;go_enter Tryz.func77,Tryz.ntmps77
  go_wp2_with (go_at_call 125;refine nV.out.mono ?_;rintro e w1 ⟨rfl,hb1⟩)
  go_ret
  exact anQ.bad HR.out (hb1.mono hB)
 |true=>
  rw[hok] at nV;have HP:=hd0 hP;have HTb:=hd0 fF;have hpb:p<w.heap.size:=hP.par.lt;obtain⟨A0,c0,hv⟩:=hP.slice (i:=6) (by decide);have kp:w.cell? ⟨p,7,none⟩=some (rv 6).v:=hP.par.cell 7;rw[hv] at kp;have hfew:=hP.few 6 (by decide);have HR:Hid (rD s l=fin (l.foldl rC 0) {s with f:= {s.f with funcs:=s.f.funcs++[l.map jP]}}):=by show _=_;unfold rD;rw[if_neg (by rw[hok];simp)]
  have hns:=hd0 (fun w1 rb (hr:Rdr w1 rb p 0) (hb:Below w.heap.size w w1) (di:w.heap.size<=rb)=>X6 w1 rb p 0 A' (n - 1) (c - 1) (ws.drop 1) (HTb.out.below hb) (nt ng (nt hB di)) hr (hrd.below hb) hlen (by omega));rw[jF hT] at hns;have hll:l.length=n - 1:=by omega
  have hfl:=hd0 (fun(w:World) S=>Yx w S (l.map jP) (U0 l));have hlm:Hid (n - 1=(l.map jP).length):=by show _=_;simp[hll]
  have hone:=hd0 (Qx (l.map jP));have afB:n - 1<=n:=by omega
  have hn1:1<=n:=by omega
  clear hP hL hT hrd hlen hll hn fF hall hok;go_enter Tryz.func77,Tryz.ntmps77
  go_wp2_with (go_at_call 125;refine nV.out.mono ?_;rintro e w0 ⟨rfl,hb0⟩)
  go_wp2_with fail
  refine(gu w0 p).mono ?_;rintro e w1 ⟨rfl,hr1,Dq⟩;have hb1:Below w.heap.size w w1:=hb0.trans (Dq.mono hb0.size);have k1:w1.cell? ⟨p,7,none⟩=some (.slice A0 (rv 6).n c0):=((af hb1).1 _ _ hpb).trans kp;have k1d:w1.drew.cell? ⟨p,7,none⟩=some (.slice A0 (rv 6).n c0):=k1;have hz0:=hb0.size;have hz1:=hb1.size;have hlr:=hr1.lt;have kW:=hd0 hr1;have Hb1:=hd0 hb1;clear hr1 hb1 hb0 Dq;go_wp2_with fail
  go_region_with (go_at_call 126;refine(hns.out _ _ (by exact kW.out) (by exact Hb1.out.drew) hz0).mono ?_;rintro e w2 ⟨v,rfl,A4,c4,rfl,iZ,hr4,hg4⟩;have hb2:=bz Hb1.out.drew hg4 hz0;have aO:=HP.out.below hb2;have hown:=aO.live.own 6 (by decide);rw[hv] at hown;obtain⟨A5,c5,w9,hrun,aZ,aB,bD⟩:=xU XJ 30 w2 Bd _ c0 A0 _ #[.slice A4 (n - 1) c4] rfl hown (by simp[Value.oneCell']) (by omega) aO.size;have k2:w2.cell? ⟨p,7,none⟩=some (.slice A0 (rv 6).n c0):=((af hb2).1 _ _ hpb).trans kp;have zp2:p<w2.heap.size:=aO.par.lt;rw[<-hv] at aB bD;have bT:Bk w9 p jq (dW s rv gm cm):=(aO.row (i:=6) (by decide) (r:=⟨.slice A5 ((rv 6).n+1) c5,_,_⟩) aB aZ bD).1;have jB:=Bk.grown hr4 aB (aO.live.own 6 (by decide)) (by decide);have x9:w9.cell? ⟨p,7,none⟩=some (rv 6).v:=bT.cell 7;have y9:=bT.frozen 7;have z9:w9.cell? ⟨w0.heap.size,1,none⟩=some (.int .i64 (l.foldl rC 0)):=jB.cell 1;have hel:aod w2 (Fz w2 rv) [.slice A4 (n - 1) c4] (l.map jP):=(by rw[hlm.out] at iZ ⊢;exact⟨A4,c4,rfl,Sl.aow iZ (hfl.out _ _) (HP.out.fresh iZ hz1 (by decide)) (by decide)⟩);have bP:=hd0 (PSt.apv (m:=1) (K':=K+n) aO aB aZ bD (ys:=[l.map jP]) rfl (Fl.one (R:=aod) hel rfl) (by omega));have ik:=hd0 ((hb2.mono hB).trans (aO.aoB (i:=6) (by decide) aB 7 (.slice A5 ((rv 6).n+1) c5) aO.size));have HQ:=hd0 (KQ.below (cm:=cm) hb2);clear hown aZ aB bD bT jB aO hb2 iZ hr4 hg4 hel)
  all_goals
   go_wp2;go_ret
   exact anQ.fin HR.out ik.out (HQ.out.trans bP.out.2) bP.out.1
end
section
attribute [-go_sem] Builtin.append_
theorem PSt.look {w:World}{Bd p gm cm:Nat}{gl:Gl}{s:PS}{rv:Rows}{K:Nat}(h:PSt w Bd p gm cm gl s rv K)(t:B):(Instr.lookup 112 (.map (some gm)) (.string ⟨t.toArray⟩) false).run Tryz.prog w= .ok (.int .i64 (fM gl t)) w:=by
 have:=h.gmp.look1 Tryz.underlying112 Tryz.underlying9 (Jp _) t;have e:((gl.lookup t).map fun n=>Value.int .i64 (n:Nat)).getD (.int .i64 0)= .int .i64 (fM gl t):=by unfold fM;cases gl.lookup t<;>rfl
 rw[e] at this;exact this
theorem Yw (gl:Gl)(s:PS)(l:List B)(h:l.length≠2)(h3:∀a b,l≠[a,b,kY]):gI gl s l= .error 22:=by
 unfold gI;split
 ·rename_i n a r;rw[if_neg];rintro(e|e)
  ·subst e;exact h rfl
  subst e;exact h3 _ _ rfl
 rfl
theorem F8 (gl:Gl)(s:PS)(t1 t2:B)(r:List B)(hr:r=[]\/r=[kY]):gI gl s (t1::t2::r)=if aT (bI 0 t1) t2≠0 then .error (aT (bI 0 t1) t2) else if fM gl t1≠s.f.anL.length then .error 24
   else .ok {s with f:= {s.f with anL:=s.f.anL++[⟨t1,aI t2,!r.isEmpty,[],[],[],[],[],[]⟩]}} :=by
 show(if r=[]\/r=[kY] then _ else _)=_;rw[if_pos hr]
theorem Xk (w:World)(Bd p gm cm:Nat)(gl:Gl)(s:PS)(rv:Rows)(K:Nat)(A:Option Addr)(n c:Nat)(ws:List P3)(t t1 t2:B)(hP:PSt w Bd p gm cm gl s rv K)(hL:aok w A n ws)(hT:ah ws=t::[t1,t2])(hK:K<=10000000000):
  Calls Tryz.prog 79 #[.pointer (some ⟨p,0,none⟩),.slice A n c] w (anQ w Bd p gm cm gl (K+n) (gI gl s [t1,t2])):=by
 have hn:n=3:=by rw[<-hL.length];exact dG hT
 have hB:=hP.size;obtain⟨b,o,rfl,hb,q1,hz1⟩:=hL.word (k:=1) (t:=t1) (by rw[hT];rfl) (d:=3) rfl;obtain⟨b',o',e',-,q2,hz2⟩:=hL.word (k:=2) (t:=t2) (by rw[hT];rfl) (d:=6) rfl;obtain⟨rfl,rfl⟩:b=b'/\o=o':=by simpa using e'
 clear e';subst hn;have HP:=hd0 hP;have hpb:p<w.heap.size:=hP.par.lt;obtain⟨A0,c0,hv⟩:=hP.slice (i:=0) (by decide);have kp:w.cell? ⟨p,1,none⟩=some (rv 0).v:=hP.par.cell 1;rw[hv] at kp;have kg:w.cell? ⟨p,10,none⟩=some (.map (some gm)):=hP.par.cell 10;have hfew:=hP.few 0 (by decide);have hlen:=hP.fnt.gly.1;have HLn:=hd0 hlen;have qL:=hd0 (fun w rb er h=>yU w rb p er t1 h);have rV:=hd0 (fun w rb er h=>dP w rb p er t2 h hz2);have HI2:=hd0 (dI t2);have HR:=hd0 (F8 gl s t1 t2 [] (by simp));have Ox:=hd0 (fun w rv K (h:PSt w Bd p gm cm gl s rv K)=>h.look t1);generalize aI t2=v2 at*
 generalize fM gl t1=vg at*
 clear hP hL hT hz1 hz2 hlen;go_enter Tryz.func79,Tryz.ntmps79
 go_wp2_with fail
 refine(gu w p).mono ?_;rintro e w1 ⟨rfl,hr1,hb1⟩;obtain⟨hc1,hf1⟩:=af hb1;have QF:w1.cell? ⟨b,o+3+2,none⟩=some (.string ⟨t1.toArray⟩):=(hc1 _ _ hb).trans q1;have hl1:=hr1.lt;have hs1:=hb1.size;have hbl:b<w1.heap.size:=by omega
 have hbc:b≠w1.heap.size:=by omega
 have hpc:p≠w1.heap.size:=by omega
 have kW:=hd0 (hr1.alloc (.cells #[.string ⟨#[]⟩,.int .i64 0,.bool false,.slice none 0 0,.slice none 0 0,.slice none 0 0,.slice none 0 0,.slice none 0 0,.slice none 0 0] 59));have Hb1:=hd0 (hb1.alloc hs1 (.cells #[.string ⟨#[]⟩,.int .i64 0,.bool false,.slice none 0 0,.slice none 0 0,.slice none 0 0,.slice none 0 0,.slice none 0 0,.slice none 0 0] 59));have oO:Hid (Bk (w1.alloc (.cells #[.string ⟨#[]⟩,.int .i64 0,.bool false,.slice none 0 0,.slice none 0 0,.slice none 0 0,.slice none 0 0,.slice none 0 0,.slice none 0 0] 59)) w1.heap.size 59 #[.string ⟨#[]⟩,.int .i64 0,.bool false,.slice none 0 0,.slice none 0 0,.slice none 0 0,.slice none 0 0,.slice none 0 0,.slice none 0 0]):=Bk.new _ _ _;clear hr1 hb1 hc1 hf1;go_wp2_with fail
 refine(qL.out _ _ _ (by exact kW.out)).mono ?_;rintro e w2 ⟨rfl,hr2,hg2⟩;have hb2:=bz Hb1.out hg2 (ag _);obtain⟨hc2,hf2⟩:=af hb2;have hk2:Bk w2 w1.heap.size 59 #[.string ⟨#[]⟩,.int .i64 0,.bool false,.slice none 0 0,.slice none 0 0,.slice none 0 0,.slice none 0 0,.slice none 0 0,.slice none 0 0]:=Bk.kept2 hg2 oO.out (by omega);have BM:w2.cell? ⟨w1.heap.size,0,none⟩=some (.string ⟨#[]⟩):=hk2.cell 0;have y2:=hk2.frozen 0;have hs2:=hk2.lt;have WG:w2.cell? ⟨b,o+6+2,none⟩=some (.string ⟨t2.toArray⟩):=(hc2 _ _ hb).trans q2;have lT:Hid (Rdr (w2.setCell ⟨w1.heap.size,0,none⟩ (.string ⟨t1.toArray⟩)) w.heap.size p (bI 0 t1)):=Bk.far hr2 (by simp;omega) _;have Hb2:=hd0 (hb2.setCell (p:=⟨w1.heap.size,0,none⟩) (by simp;omega) (.string ⟨t1.toArray⟩));have fC:Hid (Bk (w2.setCell ⟨w1.heap.size,0,none⟩ (.string ⟨t1.toArray⟩)) w1.heap.size 59 #[.string ⟨t1.toArray⟩,.int .i64 0,.bool false,.slice none 0 0,.slice none 0 0,.slice none 0 0,.slice none 0 0,.slice none 0 0,.slice none 0 0]):=hk2.set 0 _;clear hr2 hg2 hb2 hk2 hc2 hf2;go_wp2_with fail
 refine(rV.out _ _ _ (by exact lT.out)).mono ?_;rintro e w3 ⟨rfl,hr3,hg3⟩;have hb3:=bz Hb2.out hg3 (ag _);have hk3:Bk w3 w1.heap.size 59 #[.string ⟨t1.toArray⟩,.int .i64 0,.bool false,.slice none 0 0,.slice none 0 0,.slice none 0 0,.slice none 0 0,.slice none 0 0,.slice none 0 0]:=Bk.kept2 hg3 fC.out (by omega);have EX:w3.cell? ⟨w1.heap.size,1,none⟩=some (.int .i64 0):=hk3.cell 1;have y3:=hk3.frozen 1;have abL:w3.cell? ⟨w.heap.size,1,none⟩=some (.int .i64 (aT (bI 0 t1) t2)):=hr3.cell 1;have lY:Hid (Rdr (w3.setCell ⟨w1.heap.size,1,none⟩ (.int .i64 v2)) w.heap.size p (aT (bI 0 t1) t2)):=Bk.far hr3 (by simp;omega) _;have Hb3:=hd0 (hb3.setCell (p:=⟨w1.heap.size,1,none⟩) (by simp;omega) (.int .i64 v2));have jI:Hid (Bk (w3.setCell ⟨w1.heap.size,1,none⟩ (.int .i64 v2)) w1.heap.size 59 #[.string ⟨t1.toArray⟩,.int .i64 v2,.bool false,.slice none 0 0,.slice none 0 0,.slice none 0 0,.slice none 0 0,.slice none 0 0,.slice none 0 0]):=hk3.set 1 _;have hrc:w.heap.size≠w1.heap.size:=by omega
 clear hr3 hg3 hb3 hk3;generalize aT (bI 0 t1) t2=er at*
 by_cases he:er=0
 ·subst he;obtain⟨W1,hW1⟩:∃W1,w3.setCell ⟨w1.heap.size,1,none⟩ (.int .i64 v2)=W1:=⟨_,rfl⟩
  have Hr:=lY;have Hb:=Hb3;have eX:=jI;rw[hW1] at Hr Hb eX;have aO:=HP.out.below Hb.out;have hlk:=Ox.out _ _ _ aO;have acr:(Instr.lookup 112 (.map (some gm)) (.string ⟨t1.toArray⟩) false).run Tryz.prog W1.drew= .ok (.int .i64 vg) W1.drew:=Ox.out W1.drew rv K (aO.drewN 1);have xX:W1.cell? ⟨p,1,none⟩=some (.slice A0 (rv 0).n c0):=((af Hb.out).1 _ _ hpb).trans kp;have a_g:W1.cell? ⟨p,10,none⟩=some (.map (some gm)):=((af Hb.out).1 _ _ hpb).trans kg;have vC:W1.cell? ⟨w1.heap.size,0,none⟩=some (.string ⟨t1.toArray⟩):=eX.out.cell 0;have a_e:W1.cell? ⟨w.heap.size,1,none⟩=some (.int .i64 0):=Hr.out.cell 1;have xE:W1.cell? ⟨w1.heap.size,1,none⟩=some (.int .i64 v2):=eX.out.cell 1;have AZ:W1.cell? ⟨w1.heap.size,2,none⟩=some (.bool false):=eX.out.cell 2;have BG:W1.cell? ⟨w1.heap.size,3,none⟩=some (.slice none 0 0):=eX.out.cell 3;have G6:W1.cell? ⟨w1.heap.size,4,none⟩=some (.slice none 0 0):=eX.out.cell 4;have F9:W1.cell? ⟨w1.heap.size,5,none⟩=some (.slice none 0 0):=eX.out.cell 5;have YQ:W1.cell? ⟨w1.heap.size,6,none⟩=some (.slice none 0 0):=eX.out.cell 6;have X9:W1.cell? ⟨w1.heap.size,7,none⟩=some (.slice none 0 0):=eX.out.cell 7;have ZA:W1.cell? ⟨w1.heap.size,8,none⟩=some (.slice none 0 0):=eX.out.cell 8;have zp:p<W1.heap.size:=aO.par.lt;have zc:w1.heap.size<W1.heap.size:=eX.out.lt;have zr:w.heap.size<W1.heap.size:=Hr.out.lt;by_cases wV:vg=((rv 0).n:Int)
  ·have HR2:Hid (gI gl s [t1,t2]= .ok {s with f:= {s.f with anL:=s.f.anL++[⟨t1,v2,false,[],[],[],[],[],[]⟩]}}):=by
    show _=_;rw[HR.out,if_neg (by simp),if_neg (by rw[wV,HLn.out];simp)];rfl
   subst wV;go_wp2_with fail
   try rw[hW1]
   go_region
   all_goals
    obtain⟨W2,hW2⟩:∃W2,W1.drew=W2:=⟨_,rfl⟩
    try rw[hW2]
    have b_p:W2.cell? ⟨p,1,none⟩=some (.slice A0 (rv 0).n c0):=by rw[<-hW2];exact xX
    have b_0:W2.cell? ⟨w1.heap.size,0,none⟩=some (.string ⟨t1.toArray⟩):=by rw[<-hW2];exact vC
    have b_1:W2.cell? ⟨w1.heap.size,1,none⟩=some (.int .i64 v2):=by rw[<-hW2];exact xE
    have b_2:W2.cell? ⟨w1.heap.size,2,none⟩=some (.bool false):=by rw[<-hW2];exact AZ
    have b_3:W2.cell? ⟨w1.heap.size,3,none⟩=some (.slice none 0 0):=by rw[<-hW2];exact BG
    have b_4:W2.cell? ⟨w1.heap.size,4,none⟩=some (.slice none 0 0):=by rw[<-hW2];exact G6
    have b_5:W2.cell? ⟨w1.heap.size,5,none⟩=some (.slice none 0 0):=by rw[<-hW2];exact F9
    have b_6:W2.cell? ⟨w1.heap.size,6,none⟩=some (.slice none 0 0):=by rw[<-hW2];exact YQ
    have b_7:W2.cell? ⟨w1.heap.size,7,none⟩=some (.slice none 0 0):=by rw[<-hW2];exact X9
    have b_8:W2.cell? ⟨w1.heap.size,8,none⟩=some (.slice none 0 0):=by rw[<-hW2];exact ZA
    have x_p:p<W2.heap.size:=by rw[<-hW2];exact zp
    have x_c:w1.heap.size<W2.heap.size:=by rw[<-hW2];exact zc
    have HP2:PSt W2 Bd p gm cm gl s rv K:=by rw[<-hW2];exact aO.drewN 1
    have HB2:Below w.heap.size w W2:=by rw[<-hW2];exact Hb.out.drew
    have hown:=HP2.live.own 0 (by decide);rw[hv] at hown;obtain⟨A5,c5,w9,hrun,aZ,aB,bD⟩:=iw IV 24 W2 Bd _ c0 A0 _ #[.string ⟨t1.toArray⟩,.int .i64 v2,.bool false,.slice none 0 0,.slice none 0 0,.slice none 0 0,.slice none 0 0,.slice none 0 0,.slice none 0 0] rfl hown (by simp[Value.oneCell']) (by omega) HP2.size;rw[<-hv] at aB bD;have bT:Bk w9 p jq (dW s rv gm cm):=(HP2.row (i:=0) (by decide) (r:=⟨.slice A5 ((rv 0).n+1) c5,_,_⟩) aB aZ bD).1;have x9:w9.cell? ⟨p,1,none⟩=some (rv 0).v:=bT.cell 1;have y9:=bT.frozen 1;have bP:=hd0 (HP2.apj (nm:=t1) (adv:=v2) (mk:=false) aB aZ bD HI2.out (K':=K+3) (by omega));have ik:=hd0 ((HB2.mono hB).trans (HP2.aoB (i:=0) (by decide) aB 1 (.slice A5 ((rv 0).n+1) c5) HP2.size));have HQ:=hd0 (KQ.below (cm:=cm) HB2);clear Ox hlk acr kW lT lY Hb1 Hb2 Hb3 oO fC jI qL rV hW1 hW2 BM EX abL y2 y3 hown aZ aB bD bT HP2 HB2 aO Hr Hb eX xX a_g vC xE AZ BG G6 F9 YQ X9 ZA a_e;go_wp2_with fail
    go_region
    all_goals
     go_wp2;go_ret
     obtain⟨rv',g1,g2⟩:=bP.out;exact anQ.good HR2.out ik.out (HQ.out.trans g2) g1
  have HR2:Hid (gI gl s [t1,t2]= .error 24):=by show _=_;rw[HR.out,if_neg (by simp),if_pos (by rw[<-HLn.out];exact wV)]
  have e3:(vg !=((rv 0).n:Int))=true:=by simpa using wV
  clear wV;go_wp2_with fail
  try rw[hW1]
  go_region
  all_goals
   go_wp2;go_ret
   exact anQ.bad HR2.out (Hb.out.drew.mono hB)
 have HR2:Hid (gI gl s [t1,t2]= .error er):=by show _=_;rw[HR.out,if_pos he]
 have e1:(er==0)=false:=by simpa using he
 have e2:(er !=0)=true:=by simpa using he
 clear he;go_wp2;go_ret
 exact anQ.bad HR2.out (Hb3.out.mono hB)
end
end Go.Proofs.YtkijckccfookeaaGreatDoor
