/- Lemmas. -/
import Derived.Test.YtkijckccfookeaaGreatDoorV37
set_option linter.unusedVariables false
set_option linter.unusedSimpArgs false
namespace Go.Proofs.YtkijckccfookeaaGreatDoor
section
open Go.RowKit
theorem Vb {w:World}{rv:Rows}:∀b,Fz w rv b->Dt w b:=fun b ⟨cs,t,h1,h2,_⟩=>⟨cs,t,h1,h2⟩
theorem aeV {w:World}{Bd:Nat}{rv:Rows}(h:Live w Bd rv){j:Nat}(hj:j<15):∀g,(rv j).v.ownBlock=some g->Dt w g:=fun g hg=>by
 obtain⟨cur,hb⟩:=bC (h.own j hj) hg;exact⟨cur,_,hb,wu j⟩
theorem Live.fin {α:Type}{R:Rel α}(ok:R.Ok){w:World}{Bd:Nat}{rv:Rows}(h:Live w Bd rv){j:Nat}(hj:j<15){size:Nat}(hs:kS j=size){xs:List α}(hn:(rv j).n=xs.length)(hf:Fl R size w (Dt w) (rv j).xs xs):∃A c,(rv j).v= .slice A xs.length c/\Sl R size w (Dt w) A xs:=by obtain⟨A,c,hv⟩:=gV (h.own j hj);have ho:=h.own j hj;have hd:=aeV h hj;rw[hv] at ho hd;refine⟨A,c,by rw[hv,hn],?_⟩;subst hs;exact Sl.aow ho hf hd (Y0 j)
theorem Live.ao7 {α:Type}{R:Rel α}(ok:R.Ok){w:World}{Bd:Nat}{rv:Rows}(h:Live w Bd rv){j:Nat}(hj:j<15){size:Nat}(hs:kS j=size){xs:List α}(hf:aof R size w (Fz w rv) (rv j) xs):∃A c,(rv j).v= .slice A xs.length c/\Sl R size w (Dt w) A xs:=h.fin ok hj hs hf.1 (hf.2.mono ok Vb)
theorem PSt.done {w:World}{Bd p gm cm:Nat}{gl:Gl}{s:PS}{rv:Rows}{K:Nat}(h:PSt w Bd p gm cm gl s rv K):an4 w (Dt w) [.int .i64 s.f.unit,(rv 0).v,(rv 1).v,(rv 2).v,(rv 3).v,(rv 4).v,(rv 5).v,(rv 6).v,(rv 7).v] s.f:=by
 have hl:=h.live;obtain⟨A0,c0,e0,f0⟩:=hl.fin anS.ok (j:=0) (by decide) rfl h.fnt.gly.1 ((GlD.told hl h.fnt.gly).mono anS.ok Vb);obtain⟨A1,c1,e1,f1⟩:=hl.ao7 aop.ok (j:=1) (by decide) rfl h.fnt.chr;have hlk:Fl anV 3 w (Dt w) (rv 2).xs s.f.anM:=by
  rcases h.fnt.lks.2 with⟨g1,g2⟩|⟨init,l,ci,g1,g2,g3,g4,g5⟩
  ·rw[g1,g2];exact Fl.nil
  obtain⟨A,c,e,f⟩:=hl.ao7 an7.ok (j:=14) (by decide) rfl g5;rw[g1,g2,e];exact(g4.mono anV.ok Vb).append (Fl.one (R:=anV) ⟨A,c,rfl,g3,f⟩ rfl)
 obtain⟨A2,c2,e2,f2⟩:=hl.fin anV.ok (j:=2) (by decide) rfl h.fnt.lks.1 hlk;obtain⟨A3,c3,e3,f3⟩:=hl.ao7 anU.ok (j:=3) (by decide) rfl h.fnt.fts;obtain⟨A4,c4,e4,f4⟩:=hl.ao7 aoh.ok (j:=4) (by decide) rfl h.fnt.axs;obtain⟨A5,c5,e5,f5⟩:=hl.ao7 anY.ok (j:=5) (by decide) rfl h.fnt.rgs;obtain⟨A6,c6,e6,f6⟩:=hl.ao7 aod.ok (j:=6) (by decide) rfl h.fnt.fns;obtain⟨A7,c7,e7,f7⟩:=hl.ao7 anO.ok (j:=7) (by decide) rfl h.fnt.cvt;rw[e0,e1,e2,e3,e4,e5,e6,e7];exact⟨A0,c0,A1,c1,A2,c2,A3,c3,A4,c4,A5,c5,A6,c6,A7,c7,rfl,h.fnt.unit,f0,f1,f2,f3,f4,f5,f6,f7⟩
def Gu:Rows:=fun _=>RV.nil
theorem Live.start (w:World)(Bd:Nat):Live w Bd Gu:=⟨fun j _=>World.ownsRow_nil w Bd _ _,fun i j _ _ _ g h=>by cases h⟩
theorem FD.start (w:World)(S:Bs):FD w S Gu f0:={unit:=⟨by decide,by decide⟩,gly:=⟨rfl,.inl ⟨rfl,rfl⟩⟩,chr:=aof.nil _ _ _ _,lks:=⟨rfl,.inl ⟨rfl,rfl⟩⟩,fts:=aof.nil _ _ _ _,axs:=aof.nil _ _ _ _,rgs:=aof.nil _ _ _ _,fns:=aof.nil _ _ _ _,cvt:=aof.nil _ _ _ _}
theorem PSt.start {w:World}{Bd p gm cm:Nat}{gl:Gl}(hp:Bk w p jq (dW ps0 Gu gm cm))(hg:an0 mD w gm (gF gl))(hc:an0 mD w cm (fun _=>none))(hI:∀t n,gl.lookup t=some n->n<=1000000000)(hB:Bd<=p/\Bd<=gm/\Bd<=cm/\gm≠cm):PSt w Bd p gm cm gl ps0 Gu 0:={par:=hp,live:=Live.start _ _,fnt:=FD.start _ _,gmp:=hg,glI:=hI,cls:=⟨_,hc,fun t=> .inl ⟨rfl,rfl⟩⟩,few:=fun j _=>ag _,low:=hB}
def tot (l:List (List Wd)):Nat:=(l.map List.length).sum
theorem acw (ps:List B)(n:Nat):tot (bK n ps)<=(ps.map List.length).sum:=by
 induction ps generalizing n with
 |nil=>exact ag _
 |cons p ps ih=>
  have h1:=ih (n+1);have h2:=UR p;unfold tot at h1 ⊢;rw[bK];split
  ·simp only[aqX,aqv,aq3];omega
  simp only[aqY,aqv,aq9,List.sum_append,aq3,List.sum_nil,Dz];omega
theorem ad7 (s:B):((dh s).map List.length).sum<=s.length:=by
 induction s with
 |nil=>exact ag _
 |cons c r ih=>
  rw[dh];split
  ·simp only[aqv,aq3,ln,ay];omega
  cases hp:dh r with
  |nil=>exact absurd hp (GZ r)
  |cons p ps=>rw[hp] at ih;simp only[aqv,aq3,ay] at ih ⊢;omega
theorem Lc (s:B):tot (fJ s)<=s.length:=nt (acw _ _) (ad7 s)
theorem aaX (L:List (List Wd))(k:Nat)(r:List Wd)(h:L[k]? =some r):tot (L.take k)+r.length<=tot L/\tot (L.take (k+1))=tot (L.take k)+r.length:=by
 have hk:=(aqm.1 h).1;have e:L.take (k+1)=L.take k++[r]:=by rw[aq1,h];rfl
 have e2:tot (L.take (k+1))=tot (L.take k)+r.length:=by unfold tot;rw[e];simp
 refine⟨?_,e2⟩;have:tot L=tot (L.take (k+1))+tot (L.drop (k+1)):=by
  unfold tot
  conv=>lhs;rw[<-aqS (k+1) L]
  rw[aqY,List.sum_append]
 omega
theorem EO (s:B):∀r∈fJ s,r≠[]:=by
 unfold fJ;generalize 1=n;induction dh s generalizing n with
 |nil=>intro r hr;simp[bK] at hr
 |cons p ps ih=>
  intro r hr;rw[bK,aqp] at hr;rcases hr with hr|hr
  ·split at hr
   ·simp at hr
   rename_i h;simp only[aql] at hr;subst hr;simpa [num] using h
  exact ih _ r hr
theorem ZT (s:B):(fJ s).length<=s.length+1:=by have h1:=AX 1 (dh s);have h2:=Dy s;have h3:s.count 10<=s.length:=List.count_le_length;unfold fJ;omega
theorem zT {gl:Gl}{L:List (Int×List B)}{k:Nat}{no:Int}{l:List B}{s:PS}(h:stmts gl ps0 (L.take k)= .ok s)(hk:L[k]? =some (no,l)):stmts gl ps0 (L.take (k+1))=(match stmt gl s l with| .ok s'=> .ok s'| .error e=> .error (no,e)):=by rw[aq1,hk,Option.toList_some,xW,h];simp only[stmts];cases stmt gl s l<;>rfl
theorem ZK {gl:Gl}{L:List (Int×List B)}{k:Nat}{no e:Int}{l:List B}{s:PS}(h:stmts gl ps0 (L.take k)= .ok s)(hk:L[k]? =some (no,l))(he:stmt gl s l= .error e):stmts gl ps0 L= .error (no,e):=by
 have h1:=zT h hk;rw[he] at h1
 conv=>lhs;rw[<-aqS (k+1) L]
 rw[xW,h1]
end
section
theorem JL (gl:Gl)(cls:List (B×List Int))(er:Int)(he:er≠0)(l:List (List B)):(aV gl cls er l).1=er:=by
 suffices h:∀acc,(l.foldl (fun q x=>((bu gl cls q.1 [] x).1,q.2++[(bu gl cls q.1 [] x).2])) ((er,acc):Int×List (List Int))).1=er from h []
 induction l with
 |nil=>intro acc;rfl
 |cons x r ih=>intro acc;rw[aqN];simp only;rw[GM gl cls er he];exact ih _
theorem Fv (gl:Gl)(cls:List (B×List Int))(l:List (List B)):(∃e,jg gl cls l= .error e/\e≠0/\(aV gl cls 0 l).1=e)\/(∃xs,jg gl cls l= .ok xs/\aV gl cls 0 l=(0,xs)):=by
 suffices h:∀acc:List (List Int),(∃e,jg gl cls l= .error e/\e≠0/\(l.foldl (fun q x=>((bu gl cls q.1 [] x).1,q.2++[(bu gl cls q.1 [] x).2])) ((0,acc):Int×List (List Int))).1=e)\/(∃xs,jg gl cls l= .ok xs/\l.foldl (fun q x=>((bu gl cls q.1 [] x).1,q.2++[(bu gl cls q.1 [] x).2])) ((0,acc):Int×List (List Int))=(0,acc++xs)) from h []
 induction l with
 |nil=>intro acc;exact .inr ⟨[],rfl,by simp⟩
 |cons x r ih=>
  intro acc;rw[aqN,jg];simp only;rcases C9 gl cls [] x (by simp) with⟨e,h1,h2,h3⟩|⟨g,h1,h2,-⟩
  ·rw[h1,h3];refine .inl ⟨e,rfl,h2,?_⟩
   suffices h:∀acc,(r.foldl (fun q x=>((bu gl cls q.1 [] x).1,q.2++[(bu gl cls q.1 [] x).2])) ((e,acc):Int×List (List Int))).1=e from h _
   intro acc;clear ih;induction r generalizing acc with
   |nil=>rfl
   |cons y r ih=>rw[aqN];simp only;rw[GM gl cls e h2];exact ih _
  rw[h1,h2];simp only;rcases ih (acc++[g]) with⟨e,k1,k2,k3⟩|⟨xs,k1,k2⟩
  ·rw[k1];exact .inl ⟨e,rfl,k2,k3⟩
  rw[k1];exact .inr ⟨g::xs,rfl,by rw[k2];simp⟩
def kL (gl:Gl)(kind e:Int)(p3:List B):Int:=if kind=1\/kind=2\/kind=3\/kind=5 then tY gl e p3 else if kind=4 then p3.foldl mQ e else if kind=6 then fB e p3 else e
theorem adb (gl:Gl)(e:Int)(he:e≠0)(l:List B):tY gl e l=e:=by
 induction l with
 |nil=>rfl
 |cons x r ih=>
  show(x::r).foldl (jE gl) e=e;rw[aqN];have:jE gl e x=e:=by unfold jE;rw[if_neg (fun h=>he h.1)]
  rw[this];exact ih
theorem IL (e:Int)(he:e≠0)(t:B):aT e t=e:=by unfold aT;rw[if_neg (fun h=>he h.1)]
theorem abG (e:Int)(he:e≠0)(l:List B):fB e l=e:=by
 induction l with
 |nil=>rfl
 |cons x r ih=>show(x::r).foldl aT e=e;rw[aqN,IL e he];exact ih
theorem YI (e:Int)(he:e≠0)(l:List B):l.foldl mQ e=e:=by
 induction l with
 |nil=>rfl
 |cons x r ih=>
  rw[aqN];have:mQ e x=e:=by unfold mQ;rw[IL e he,IL e he]
  rw[this];exact ih
theorem Qj (gl:Gl)(kind e:Int)(he:e≠0)(p3:List B):kL gl kind e p3=e:=by
 unfold kL;split
 ·exact adb gl e he p3
 split
 ·exact YI e he p3
 split
 ·exact abG e he p3
 rfl
def dA (gl:Gl)(kind:Int)(b i a:List (List Int))(p3:List B):aom:=⟨b.map setOf,i.map setOf,a.map setOf,if kind=1\/kind=2\/kind=3\/kind=5 then p3.map (fM gl) else [],if kind=4 then p3.map jW else [],if kind=6 then aI (p3.headD []) else 0⟩
def yI (s:PS)(kind:Int)(i:List (List Int))(r:aom):Ans:=
 if kind=1\/kind=5 then(match eu (i.headD []) r.out with
  | .error e=> .error e
  | .ok o=> .ok (jG s fun lk=> {lk with rules:=lk.rules++[{r with out:=o}]}))
 else .ok (jG s fun lk=> {lk with rules:=lk.rules++[r]})
theorem XQ (gl:Gl)(s:PS){l:List B}{init:List Lookup}{lk:Lookup}(hs:s.f.anM=init++[lk]){p0 p1 p2 p3:List B}(h:pR l=some [p0,p1,p2,p3]){T0 T1 T2:List (List B)}(h0:fD p0=some T0)(h1:fD p1=some T1)(h2:fD p2=some T2)(hok:¬((lk.kind=1\/lk.kind=5)/\T1.length≠1))(hok2:dZ lk.kind p3=true):
  let q0:=aV gl s.cls 0 T0
  let q1:=aV gl s.cls q0.1 T1
  let q2:=aV gl s.cls q1.1 T2
  let e4:=kL gl lk.kind q2.1 p3
  eF gl s l=if e4≠0 then .error e4 else yI s lk.kind q1.2 (dA gl lk.kind q0.2 q1.2 q2.2 p3):=by
 intro q0 q1 q2 e4;unfold eF;rw[hs,List.getLast?_append];simp only[List.getLast?_singleton,Option.some_or];rw[h];simp only;rw[h0,h1,h2];simp only;rw[if_neg hok,if_neg (by rw[hok2];simp)];rcases Fv gl s.cls T0 with⟨e,k1,k2,k3⟩|⟨xs,k1,k3⟩
 ·have a1:q1.1=e:=by show(aV gl s.cls (aV gl s.cls 0 T0).1 T1).1=e;rw[k3,JL _ _ _ k2]
  have a2:q2.1=e:=by show(aV gl s.cls q1.1 T2).1=e;rw[a1,JL _ _ _ k2]
  have a3:e4=e:=by show kL gl lk.kind q2.1 p3=e;rw[a2,Qj _ _ _ k2]
  rw[k1,a3,if_pos k2]
 have b0:q0=(0,xs):=k3;have b1:q1=aV gl s.cls 0 T1:=by show aV gl s.cls q0.1 T1=_;rw[b0]
 rw[k1];simp only;rcases Fv gl s.cls T1 with⟨e,m1,m2,m3⟩|⟨ys,m1,m3⟩
 ·have a1:q1.1=e:=by rw[b1,m3]
  have a2:q2.1=e:=by show(aV gl s.cls q1.1 T2).1=e;rw[a1,JL _ _ _ m2]
  have a3:e4=e:=by show kL gl lk.kind q2.1 p3=e;rw[a2,Qj _ _ _ m2]
  rw[m1,a3,if_pos m2]
 have c1:q1=(0,ys):=by rw[b1,m3]
 have c2:q2=aV gl s.cls 0 T2:=by show aV gl s.cls q1.1 T2=_;rw[c1]
 rw[m1];simp only;rcases Fv gl s.cls T2 with⟨e,n1,n2,n3⟩|⟨zs,n1,n3⟩
 ·have a2:q2.1=e:=by rw[c2,n3]
  have a3:e4=e:=by show kL gl lk.kind q2.1 p3=e;rw[a2,Qj _ _ _ n2]
  rw[n1,a3,if_pos n2]
 have c3:q2=(0,zs):=by rw[c2,n3]
 rw[n1];have he4:e4=kL gl lk.kind 0 p3:=by show kL gl lk.kind q2.1 p3=_;rw[c3]
 rw[he4,b0,c1,c3];rfl
end
section
open Go.RowKit
theorem EC (gl:Gl)(cls:List (B×List Int))(Q:List Int->Prop)(hQ:∀er l,Q (bu gl cls er [] l).2)(er:Int)(l:List (List B)):∀r∈(aV gl cls er l).2,Q r:=by
 suffices h:∀q:Int×List (List Int),(∀r∈q.2,Q r)->∀r∈(l.foldl (fun q x=>((bu gl cls q.1 [] x).1,q.2++[(bu gl cls q.1 [] x).2])) q).2,Q r from h (er,[]) (fun r hr=>by simp at hr)
 induction l with
 |nil=>intro q hq;exact hq
 |cons x r ih=>
  intro q hq;rw[aqN];refine ih _ fun y hy=> ?_
  rcases aqp.1 hy with g|g
  ·exact hq y g
  simp only[aql] at g;subst g;exact hQ _ _
theorem ac1 (gl:Gl)(cls:List (B×List Int))(hc:∀t l,cls.lookup t=some l->l.length<=2000)(er:Int)(acc:List Int)(ha:acc.length<=1000)(l:List B):(bu gl cls er acc l).2.length<=3001:=by
 have hw:∀er acc t,acc.length<=1000->(gW gl cls er acc t).2.length<=3001:=by
  intro er acc t ha;unfold gW;split
  ·split
   ·rename_i c hcl;have:=hc _ _ hcl;show(acc++c).length<=_;rw[az];omega
   show acc.length<=_;omega
  show(acc++[_]).length<=_;rw[az,List.length_singleton];omega
 induction l generalizing er acc with
 |nil=>exact nt ha (by omega)
 |cons t r ih=>
  rw[bu];split
  ·exact hw er acc t ha
  split
  ·exact hw er acc t ha
  rename_i h1 h2;exact ih _ _ (by omega)
theorem PSt.aqg {w:World}{Bd p gm cm:Nat}{gl:Gl}{s:PS}{rv:Rows}{K:Nat}(h:PSt w Bd p gm cm gl s rv K):∀t l,s.cls.lookup t=some l->l.length<=2000:=by
 intro t l hl;obtain⟨f,h1,h2⟩:=h.cls;rcases h2 t with⟨g,_⟩|⟨l',A,c,e1,e2,e3,e4⟩
 ·rw[g] at hl;cases hl
 rw[e1] at hl;cases hl;exact e4
structure aoq (base:Nat)(A:Option Addr)(n:Nat)(hs:List Value)(xs:List (List Int))(w:World):Prop where
 rd:RdT w 22 A n 1 hs
 fl:Fl anN 1 w (IB base w) hs xs
theorem aoq.mk' {w:World}{b2 base:Nat}{A:Option Addr}{n c:Nat}{hs:List Value}{xs:List (List Int)}(ho:w.ownsRow b2 22 1 (.slice A n c) n hs)(hf:Fl anN 1 w (IB base w) hs xs):aoq base A n hs xs w:=⟨kH ho,hf⟩
theorem aoq.reader {base:Nat}{A:Option Addr}{n:Nat}{hs:List Value}{xs:List (List Int)}{w w':World}{rb p:Nat}{er:Int}(h:aoq base A n hs xs w)(hr:Rdr w rb p er)(hg:w.grownBy w' (some rb)):aoq base A n hs xs w':=⟨h.rd.grown hg (fun g e=>by cases e;exact⟨_,_,hr,by decide⟩),h.fl.ib hg (fun g e=>by cases e;exact⟨_,_,hr,by decide⟩)⟩
theorem aoq.below {base:Nat}{A:Option Addr}{n:Nat}{hs:List Value}{xs:List (List Int)}{w w':World}(h:aoq base A n hs xs w)(hb:Below w.heap.size w w'):aoq base A n hs xs w':=⟨h.rd.below hb,h.fl.ib (aH hb none) (fun g e=>by cases e)⟩
theorem aoq.sets {base:Nat}{A:Option Addr}{n c:Nat}{hs:List Value}{xs:List (List Int)}{w:World}(h:aoq base A n hs xs w)(hn:n<=1000000000)(hl:∀r∈xs,r.length<=1000000000)(hI:∀r∈xs,∀x∈r,I64 x):
  Calls Tryz.prog 137 #[.slice A n c] w fun e w'=>∃v,e= .returned v/\aoY w n (xs.map setOf) v w':=
 Xy w A n c xs hs h.rd h.fl (fun b hb=>by obtain⟨-,cur,hk⟩:=hb;exact hk.lt) hn hl hI
theorem aoq.first {base:Nat}{A:Option Addr}{n:Nat}{hs:List Value}{x:List Int}{xs:List (List Int)}{w:World}(h:aoq base A n hs (x::xs) w)(hn:0<n):∃b o A' c',A=some ⟨b,o,none⟩/\b<w.heap.size/\w.cell? ⟨b,o,none⟩=some (.slice A' x.length c')/\Rd w w.heap.size A' x.length 1 (aP x):=by obtain⟨b,o,cur,e,hb,hc⟩:=h.rd.2 hn;obtain⟨A',c',h0,hsl⟩:=UE h.fl (k:=0) (r:=x) rfl;exact⟨b,o,A',c',e,hb.lt,(hb.cell o).trans (hc 0 _ h0),WW hsl (fun b hb=>by obtain⟨-,cur,hk⟩:=hb;exact hk.lt)⟩
theorem PSt.ib {w w2:World}{Bd p gm cm:Nat}{gl:Gl}{s:PS}{rv:Rows}{K:Nat}(h:PSt w Bd p gm cm gl s rv K){base:Nat}(hb:w.heap.size<=base):∀g,IB base w2 g->Fz w2 rv g:=by rintro g ⟨h1,cur,hk⟩;refine⟨cur,_,hk,by decide,fun j hj e'=> ?_⟩;have:=((h.live.own j hj).lt g e').2;omega
theorem out_ok (w:World)(C rb p gm:Nat)(gl:Gl)(kind err:Int)(v0 v1 v2:Value)(A:Option Addr)(n c:Nat)(ws:List P3)(hC:Bk w C mP #[v0,v1,v2,.slice none 0 0,.slice none 0 0,.int .i64 0])(hR:Rdr w rb p err)(hG:aoW w p gm gl)
  (hp:p<w.heap.size) (p1:p≠rb) (p2:p≠C) (p3:gm≠rb) (p4:gm≠C) (hw:RdT w dX A n 3 (dD ws)) (hl:∀x∈ws,x.2.2.length<=100000000) (hn:n<=1000000000) (hok:dZ kind (ah ws)=true) (b i a:List (List Int)):
  Calls Tryz.prog 138 #[.pointer (some ⟨rb,0,none⟩),.int .i64 kind,.slice A n c,.pointer (some ⟨C,0,none⟩)] w fun e w'=>e= .returned (.tuple #[])/\aoP w C rb p v0 v1 v2 (kL gl kind err (ah ws)) (dA gl kind b i a (ah ws)).out (dA gl kind b i a (ah ws)).calls (dA gl kind b i a (ah ws)).x w':=by
 unfold dA kL;simp only;by_cases h1:kind=1\/kind=2\/kind=3\/kind=5
 ·rw[if_pos h1,if_pos h1,if_neg (by omega),if_neg (by omega)];exact YM w C rb p gm gl kind err v0 v1 v2 A n c ws h1 hC hR hG hp p1 p2 p3 p4 hw hn
 rw[if_neg h1,if_neg h1];by_cases h4:kind=4
 ·rw[if_pos h4,if_pos h4,if_neg (by omega)];subst h4;exact XU w C rb p err v0 v1 v2 A n c ws hC hR hw hl hn
 rw[if_neg h4,if_neg h4];by_cases h6:kind=6
 ·rw[if_pos h6,if_pos h6]
  unfold dZ at hok;rw[if_neg h4,if_pos h6] at hok;obtain⟨t,ht⟩:∃t,ah ws=[t]:=by
   match ah ws,hok with
   |[t],_=>exact⟨t,rfl⟩
  subst h6;rw[ht];exact acg w C rb p err v0 v1 v2 A n c ws hC hR hw hl ht
 rw[if_neg h6,if_neg h6];exact acD w C rb p kind err v0 v1 v2 A n c hC hR (by omega)
theorem tV {w w':World}{a b:Nat}(ht:Two w w' a b){ta tb e:TypeId}{ca cb:Array Value}(ha:Bk w a ta ca)(hb:Bk w b tb cb)(n1:e≠ta)(n2:e≠tb){base size n:Nat}{v:Value}{xs:List Value}(h:w.ownsRow base e size v n xs):w'.ownsRow base e size v n xs:=by
 refine⟨h.1,?_⟩;rcases h.2 with h0|⟨g,cap,cur,rfl,hg,hh,rest⟩
 ·exact .inl h0
 refine .inr ⟨g,cap,cur,rfl,hg,(ht.block g (aqo.1 hh).1 (fun e'=> ?_) (fun e'=> ?_)).trans hh,rest⟩
 ·subst e';exact n1 (bY hh ha).1
 subst e';exact n2 (bY hh hb).1
theorem uz {w w':World}{a b:Nat}(ht:Two w w' a b){ta tb:TypeId}{ca cb:Array Value}(ha:Bk w a ta ca)(hb:Bk w b tb cb)(n1:3≠ta)(n2:3≠tb){base:Nat}{hs:List Value}{xs:List (List Int)}(h:Fl anN 1 w (IB base w) hs xs):Fl anN 1 w' (IB base w') hs xs:=by
 have hsame:Same (IB base w) w w':=fun g ⟨_,cur,hk⟩=>ht.block g hk.lt (fun e'=>by subst e';exact n1 (bY hk ha).1) (fun e'=>by subst e';exact n2 (bY hk hb).1)
 exact(h.keep anN.ok hsame).mono anN.ok fun g hg=>⟨hg.1,by obtain⟨cur,hk⟩:=hg.2;exact⟨cur,hk.keep (hsame g hg)⟩⟩
section
variable {w W:World} {Bd p gm cm:Nat} {gl:Gl} {s:PS} {rv:Rows} {K:Nat}
theorem JV (h:PSt w Bd p gm cm gl s rv K){A:Option Addr}{n c b2 base:Nat}{hs:List Value}{xs:List (List Int)}(ho:W.ownsRow b2 22 1 (.slice A n c) n hs)(hf:Fl anN 1 W (IB base W) hs xs)(hb:w.heap.size<=b2)(hb2:w.heap.size<=base):Sl anN 1 W (Fz W rv) A xs:=Sl.aow ho (hf.mono anN.ok (h.ib hb2)) (h.fresh ho hb (by decide)) (by decide)
theorem adE (W:World)(S:Bs)(l:List Call)(h:∀x∈l,I64 x.at'/\I64 x.lookup):Fl aov 2 W S (sG l) l:=by
 induction l with
 |nil=>exact Fl.nil
 |cons x r ih=>obtain⟨h1,h2⟩:=h x (by simp);exact(Fl.one (R:=aov) ⟨rfl,h1,h2⟩ rfl).append (ih (fun y hy=>h y (by simp[hy])))
theorem Pe (h:PSt w Bd p gm cm gl s rv K){A0 A1 A2 Ao Ac:Option Addr}{c0 c1 c2 co cc b0 b1 b2 bo bc e0 e1 e2:Nat}{h0 h1 h2:List Value}{s0 s1 s2:List (List Int)}{out:List Int}{calls:List Call}{x:Int}
  (o0:W.ownsRow b0 22 1 (.slice A0 s0.length c0) s0.length h0) (f0:Fl anN 1 W (IB e0 W) h0 s0) (o1:W.ownsRow b1 22 1 (.slice A1 s1.length c1) s1.length h1) (f1:Fl anN 1 W (IB e1 W) h1 s1) (o2:W.ownsRow b2 22 1 (.slice A2 s2.length c2) s2.length h2) (f2:Fl anN 1 W (IB e2 W) h2 s2)
  (oo:W.ownsRow bo 3 1 (.slice Ao out.length co) out.length (aP out)) (oc:W.ownsRow bc 95 2 (.slice Ac calls.length cc) calls.length (sG calls)) (io:∀y∈out,I64 y) (ic:∀y∈calls,I64 y.at'/\I64 y.lookup) (ix:I64 x)
  (l0:w.heap.size<=b0) (l1:w.heap.size<=b1) (l2:w.heap.size<=b2) (lo:w.heap.size<=bo) (lc:w.heap.size<=bc) (m0:w.heap.size<=e0) (m1:w.heap.size<=e1) (m2:w.heap.size<=e2):
  an7 W (Fz W rv) [.slice A0 s0.length c0,.slice A1 s1.length c1,.slice A2 s2.length c2,.slice Ao out.length co,.slice Ac calls.length cc,.int .i64 x] ⟨s0,s1,s2,out,calls,x⟩:=
 ⟨A0,c0,A1,c1,A2,c2,Ao,co,Ac,cc,rfl,ix,JV h o0 f0 l0 m0,JV h o1 f1 l1 m1,JV h o2 f2 l2 m2,Sl.aow oo (BV _ _ _ io) (h.fresh oo lo (by decide)) (by decide),Sl.aow oc (adE _ _ _ ic) (h.fresh oc lc (by decide)) (by decide)⟩
end
end
end Go.Proofs.YtkijckccfookeaaGreatDoor
