/- Lemmas. -/
import Derived.Test.YtkijckccfookeaaGreatDoorV08
set_option linter.unusedVariables false
set_option linter.unusedSimpArgs false
set_option maxRecDepth 100000
set_option maxHeartbeats 32000000
namespace Go.Proofs.YtkijckccfookeaaGreatDoor
section
open Go.RowKit
def ah9 (gl:Gl)(s:PS)(L:List (List B))(s':PS):Prop:=Sz L/\∀n,stmts gl s (oh n L)= .ok s'
theorem ah9.nil (gl:Gl)(s:PS):ah9 gl s [] s:=⟨fun l hl=>by simp at hl,fun _=>rfl⟩
theorem ah9.cons {gl:Gl}{s s' s'':PS}{l:List B}{L:List (List B)}(hl:l≠[]/\∀w∈l,bM w=true)(h:stmt gl s l= .ok s')(k:ah9 gl s' L s''):ah9 gl s (l::L) s'':=by
 refine⟨fun x hx=> ?_,fun n=> ?_⟩
 ·rw[akx] at hx;rcases hx with rfl|hx
  ·exact hl
  exact k.1 x hx
 rw[oh,stmts,h];exact k.2 _
theorem ah9.app {gl:Gl}{s s' s'':PS}{a b:List (List B)}(h:ah9 gl s a s')(k:ah9 gl s' b s''):ah9 gl s (a++b) s'':=by
 refine⟨fun x hx=> ?_,fun n=> ?_⟩
 ·rw[akq] at hx;rcases hx with hx|hx
  ·exact h.1 x hx
  exact k.1 x hx
 rw[Uu,AO,h.2 n];exact k.2 _
theorem ah9.one {gl:Gl}{s s':PS}{l:List B}(hl:l≠[]/\∀w∈l,bM w=true)(h:stmt gl s l= .ok s'):ah9 gl s [l] s':= .cons hl h (.nil _ _)
theorem ah9.ajs {α:Type}{gl:Gl}(l:List α)(lines:α->List (List B))(st:List α->PS)(h:∀done x rest,l=done++x::rest->ah9 gl (st done) (lines x) (st (done++[x]))):ah9 gl (st []) (l.flatMap lines) (st l):=by
 suffices key:∀rest done,l=done++rest->ah9 gl (st done) (rest.flatMap lines) (st l) from key l [] rfl
 intro rest;induction rest with
 |nil=>intro done e;simp at e;subst e;exact .nil _ _
 |cons x r ih=>intro done e;rw[akD];exact(h done x r e).app (ih (done++[x]) (by simp[e]))
theorem ah9.each {α:Type}{gl:Gl}(l:List α)(line:α->List B)(st:List α->PS)(hl:∀x∈l,line x≠[]/\∀w∈line x,bM w=true)(h:∀done x rest,l=done++x::rest->stmt gl (st done) (line x)= .ok (st (done++[x]))):ah9 gl (st []) (l.map line) (st l):=by
 have e:l.map line=l.flatMap (fun x=>[line x]):=by
  clear hl h;induction l with
  |nil=>rfl
  |cons x r ih=>simp[ih]
 rw[e];exact ah9.ajs l _ st fun done x rest hx=> .one (hl x (by simp[hx])) (h done x rest hx)
def yN (a:aiM):List B:=[oW,a.name,ag a.min',ag a.aiv,ag a.max']
def zY (r:Region):List B:=iM::r.ah4.flatMap jM
def Jz (p:List Ins):List B:=mX::p.map dw
def yP (gs:List ahR)(c:Chr):List B:=[pq,ag c.rune,bV gs c.ahU]
def CZ (x:aip):List B:=iw::x.name::x.ahP.map ag
def KR (l:Lookup):List B:=fH::pick az l.kind::if l.aik then [eP] else []
def O3 (c:List Pt):List B:=eX::c.map jb
def Dq (gs:List ahR)(p:Part):List B:=[mY,bV gs p.ahU,ag p.x,ag p.y]
def Dh (a:aiK):List B:=[jd,pick anchorNames a.kind,ag a.cls,ag a.x,ag a.y]
def Dn (d:Delta):List B:=[kC,ag d.region,ag d.point,ag d.x,ag d.y]
def hiL (h:List Ins):List B:=kP::h.map dw
def MP (g:ahR):List B:=dM::g.name::ag g.advance::if g.mark then [iH] else []
theorem iK {a:B}{l:List B}(ha:bM a=true)(hl:∀w∈l,bM w=true):a::l≠[]/\∀w∈a::l,bM w=true:=
 ⟨by simp,fun w hw=>by
  rw[akx] at hw;rcases hw with rfl|hw
  ·exact ha
  exact hl w hw⟩
theorem GH (l:List Int):∀w∈l.map ag,bM w=true:=fun w hw=>by
 rw[akQ] at hw;obtain⟨n,-,rfl⟩:=hw;exact qF n
section
variable {gl:Gl} {s:PS}
theorem abN {a:aiM}(h:nameB a.name=true/\N9 a.min'/\N9 a.aiv/\N9 a.max'):stmt gl s (yN a)= .ok {s with f:= {s.f with ahQ:=s.f.ahQ++[a]}} :=by obtain⟨h1,h2,h3,h4⟩:=h;rw[yN,Oq,qZ,Eb h1,gU _ h2,gU _ h3,gU _ h4,(eu _ h2).2,(eu _ h3).2,(eu _ h4).2];rfl
theorem abg {a:aiM}(h:nameB a.name=true):yN a≠[]/\∀w∈yN a,bM w=true:=by
 refine⟨by simp[yN],fun w hw=> ?_⟩;simp only[yN,akx,akV,or_false] at hw;rcases hw with rfl|rfl|rfl|rfl|rfl
 ·decide
 ·exact pK h
 all_goals exact qF _
theorem Iy (l:List aiH):l.flatMap jM=(l.flatMap fun t=>[t.start,t.peak,t.stop]).map ag:=by
 induction l with
 |nil=>rfl
 |cons t r ih=>simp[jM,ih]
theorem PQ (l:List aiH):bT (l.flatMap fun t=>[t.start,t.peak,t.stop])=l:=by
 induction l with
 |nil=>rfl
 |cons t r ih=>simp[bT,ih]
theorem NJ (l:List aiH):(l.flatMap fun t=>[t.start,t.peak,t.stop]).length=3*l.length:=by
 induction l with
 |nil=>rfl
 |cons t r ih=>simp only[akD,la,ih,aF,ln];omega
theorem ab3 {r:Region}(h:∀t∈r.ah4,N9 t.start/\N9 t.peak/\N9 t.stop):stmt gl s (zY r)= .ok {s with f:= {s.f with regions:=s.f.regions++[r]}} :=by
 have hn:∀n∈r.ah4.flatMap fun t=>[t.start,t.peak,t.stop],N9 n:=fun n hn=>by
  rw[akZ] at hn;obtain⟨t,ht,hn⟩:=hn;obtain⟨h1,h2,h3⟩:=h t ht;simp only[akx,akV,or_false] at hn;rcases hn with rfl|rfl|rfl<;>assumption
 rw[zY,IJ,kU,Iy,aks,NJ,if_neg (by omega),uQ _ hn,D8 _ hn,PQ];rfl
theorem aa1 (r:Region):zY r≠[]/\∀w∈zY r,bM w=true:=by rw[zY,Iy];exact iK (by decide) (GH _)
theorem aaW {l:List Int}(h:∀n∈l,N9 n):stmt gl s (kF::l.map ag)= .ok {s with f:= {s.f with cvt:=s.f.cvt++l}} :=by rw[Td,zX,uQ _ h,D8 _ h];rfl
theorem aak {p:List Ins}(h:xg p):stmt gl s (Jz p)= .ok {s with f:= {s.f with funcs:=s.f.funcs++[p]}} :=by obtain⟨h1,h2,h3,-⟩:=zx p h 0;rw[Jz,Pj,qW,h3,h1,h2];rfl
theorem abS {gs:List ahR}(hg:aiy gl gs){c:Chr}(h:N9 c.rune/\In gs.length c.ahU):stmt gl s (yP gs c)= .ok {s with f:= {s.f with chars:=s.f.chars++[c]}} :=by obtain⟨h1,h2⟩:=h;rw[yP,O4,qO,gU _ h1,(Af hg h2 0).1,(eu _ h1).2,(Af hg h2 0).2];rfl
theorem abl {gs:List ahR}(hg:aiy gl gs){c:Chr}(h:In gs.length c.ahU):yP gs c≠[]/\∀w∈yP gs c,bM w=true:=by
 refine⟨by simp[yP],fun w hw=> ?_⟩;simp only[yP,akx,akV,or_false] at hw;rcases hw with rfl|rfl|rfl
 ·decide
 ·exact qF _
 exact pK (xK hg h).2
theorem aaB {x:aip}(h:nameB x.name=true/\∀n∈x.ahP,N9 n):stmt gl s (CZ x)= .ok {s with f:= {s.f with features:=s.f.features++[x]}} :=by obtain⟨h1,h2⟩:=h;rw[CZ,EX,kK,Eb h1,uQ _ h2,D8 _ h2];rfl
theorem aby {x:aip}(h:nameB x.name=true):CZ x≠[]/\∀w∈CZ x,bM w=true:=iK (by decide) (iK (pK h) (GH _)).2
theorem OI {p:List Ins}(h:xg p){a:B}(ha:bM a=true):a::p.map dw≠[]/\∀w∈a::p.map dw,bM w=true:=iK ha (zx p h 0).2.2.2
theorem acm {l:Lookup}(h:1<=l.kind/\l.kind<=8):stmt gl s (KR l)= .ok {s with f:= {s.f with ahP:=s.f.ahP++[⟨l.kind,l.aik,[]⟩]}} :=by obtain⟨h1,-⟩:=Ih l.kind h.1 h.2;rw[KR,Ik];cases hi:l.aik<;>simp only[fV,if_true,if_false,Bool.false_eq_true,true_or,or_true,h1,List.cons_ne_nil]<;>rw[if_neg (by omega)]<;>rfl
theorem aaD {l:Lookup}(h:1<=l.kind/\l.kind<=8):KR l≠[]/\∀w∈KR l,bM w=true:=by
 refine iK (by decide) (iK (Ih l.kind h.1 h.2).2 fun w hw=> ?_).2;split at hw
 ·simp only[akm] at hw;subst hw;decide
 simp at hw
end
def lst (s:PS)(init:List Lookup)(l:Lookup):PS:= {s with f:= {s.f with ahP:=init++[l]}}
theorem QH (s:PS)(init:List Lookup)(l:Lookup)(h:Lookup->Lookup):jC (lst s init l) h=lst s init (h l):=by simp[jC,lst]
theorem NU {gl:Gl}{gs:List ahR}(hg:aiy gl gs)(hn:gs.length<=1000)(s:PS)(l:Lookup)(hk:1<=l.kind/\l.kind<=8)(hr:∀r∈l.rules,OkR gs.length l.kind r)(ws:List (List Int)->List B)
  (hw:∀x:List (List Int),(∀y∈x,∀n∈y,In gs.length n)->BR gs (ws x) x/\∀w∈ws x,bM w=true):
  ah9 gl s (KR l::l.rules.map (fun r=>dF::(ws r.back++[47]::ws r.in'++[47]::ws r.ahead++[62]::outW gs l.kind r))) {s with f:= {s.f with ahP:=s.f.ahP++[l]}} :=by
 refine ah9.cons (aaD hk) (acm hk) ?_;have key:=ah9.each (gl:=gl) l.rules (fun r=>dF::(ws r.back++[47]::ws r.in'++[47]::ws r.ahead++[62]::outW gs l.kind r)) (fun d=>lst s s.f.ahP ⟨l.kind,l.aik,d⟩) (fun r hx=> ?_) (fun done r rest e=> ?_)
 ·have e:lst s s.f.ahP ⟨l.kind,l.aik,l.rules⟩= {s with f:= {s.f with ahP:=s.f.ahP++[l]}} :=rfl;rw[<-e];exact key
 ·have ho:=hr r hx;obtain⟨a1,a2⟩:=hw r.back fun y hy=>(ho.back y hy).2
  obtain⟨b1,b2⟩:=hw r.in' fun y hy=>(ho.in' y hy).2
  obtain⟨c1,c2⟩:=hw r.ahead fun y hy=>(ho.ahead y hy).2
  refine iK (by decide) fun w hw=> ?_
  simp only[akC,aky,akq,akx] at hw;rcases hw with hw|rfl|hw|rfl|hw|rfl|hw
  ·exact a2 w hw
  ·decide
  ·exact b2 w hw
  ·decide
  ·exact c2 w hw
  ·decide
  exact(FY hg _ r ho w hw).2.2
 have ho:=hr r (by simp[e]);rw[Px,Uf hg hn _ ⟨l.kind,l.aik,done⟩ (by simp[lst]) hk r ho _ _ _ (hw r.back fun y hy=>(ho.back y hy).2).1 (hw r.in' fun y hy=>(ho.in' y hy).2).1 (hw r.ahead fun y hy=>(ho.ahead y hy).2).1,QH]
def nS (s:PS)(init:List ahR)(g:ahR):PS:= {s with f:= {s.f with ahO:=init++[g]}}
theorem qM (s:PS)(init:List ahR)(g:ahR)(h:ahR->ahR):nP (nS s init g) h=nS s init (h g):=by simp[nP,nS]
theorem Bj (s:PS)(init:List ahR)(g:ahR):(nS s init g).f.ahO≠[]:=by simp[nS]
section
variable {gl:Gl} {s:PS} {init:List ahR} {g:ahR}
theorem acu {gs:List ahR}(hg:aiy gl gs){p:Part}(h:In gs.length p.ahU/\N9 p.x/\N9 p.y):stmt gl (nS s init g) (Dq gs p)= .ok (nS s init {g with parts:=g.parts++[p]}):=by obtain⟨h1,h2,h3⟩:=h;rw[Dq,OH,ou,if_neg (Bj _ _ _)];simp only[(Af hg h1 0).1,(Af hg h1 0).2,gU _ h2,gU _ h3,(eu _ h2).2,(eu _ h3).2,qM];rfl
theorem abA {gs:List ahR}(hg:aiy gl gs){p:Part}(h:In gs.length p.ahU):Dq gs p≠[]/\∀w∈Dq gs p,bM w=true:=by
 refine⟨by simp[Dq],fun w hw=> ?_⟩;simp only[Dq,akx,akV,or_false] at hw;rcases hw with rfl|rfl|rfl|rfl
 ·decide
 ·exact pK (xK hg h).2
 all_goals exact qF _
theorem abp {a:aiK}(h:1<=a.kind/\a.kind<=4/\N9 a.cls/\N9 a.x/\N9 a.y):stmt gl (nS s init g) (Dh a)= .ok (nS s init {g with anchors:=g.anchors++[a]}):=by
 obtain⟨h1,h2,h3,h4,h5⟩:=h;obtain⟨k1,-⟩:=IZ a.kind h1 h2;have hn:∀n∈[a.cls,a.x,a.y],N9 n:=by simp[h3,h4,h5]
 have he:=uQ [a.cls,a.x,a.y] hn 0;rw[Dh,II,iJ,if_neg (Bj _ _ _)];simp only[akv,ak9] at he;simp only[k1,he,(eu _ h3).2,(eu _ h4).2,(eu _ h5).2,qM];rw[if_neg (by omega)];rfl
theorem aca {a:aiK}(h:1<=a.kind/\a.kind<=4):Dh a≠[]/\∀w∈Dh a,bM w=true:=by
 refine⟨by simp[Dh],fun w hw=> ?_⟩;simp only[Dh,akx,akV,or_false] at hw;rcases hw with rfl|rfl|rfl|rfl|rfl
 ·decide
 ·exact(IZ a.kind h.1 h.2).2
 all_goals exact qF _
theorem aau {d:Delta}(h:N9 d.region/\N9 d.point/\N9 d.x/\N9 d.y):stmt gl (nS s init g) (Dn d)= .ok (nS s init {g with deltas:=g.deltas++[d]}):=by
 obtain⟨h1,h2,h3,h4⟩:=h;have hn:∀n∈[d.region,d.point,d.x,d.y],N9 n:=by simp[h1,h2,h3,h4]
 have he:=uQ [d.region,d.point,d.x,d.y] hn 0;rw[Dn,LV,lC,if_neg (Bj _ _ _)];simp only[akv,ak9] at he;simp only[he,(eu _ h1).2,(eu _ h2).2,(eu _ h3).2,(eu _ h4).2,qM];rfl
theorem abq (d:Delta):Dn d≠[]/\∀w∈Dn d,bM w=true:=by
 refine⟨by simp[Dn],fun w hw=> ?_⟩;simp only[Dn,akx,akV,or_false] at hw;rcases hw with rfl|rfl|rfl|rfl|rfl
 ·decide
 all_goals exact qF _
theorem abP {h:List Ins}(hk:xg h):stmt gl (nS s init g) (hiL h)= .ok (nS s init {g with hint:=g.hint++h}):=by obtain⟨h1,h2,h3,-⟩:=zx h hk 0;rw[hiL,OY,oz,if_neg (Bj _ _ _),h3,h1,h2,qM];rfl
theorem acd {c:List Pt}(hc:∀p∈c,N9 p.x/\N9 p.y)(hne:c≠[]):stmt gl (nS s init g) (O3 c)= .ok (nS s init {g with points:=g.points++c,ends:=g.ends++[((g.points.length+c.length:Nat):Int) - 1]}):=by
 obtain⟨h1,h2,h3,-⟩:=Lt c hc 0;have hb:¬(c.map jb=[]\/(c.map jb).all lu=false):=by rw[h3];simp[hne]
 rw[O3,ES,gK,if_neg (Bj _ _ _),if_neg hb,h1,h2,qM,aks];rfl
theorem Ql (pts:List Pt)(hp:∀p∈pts,N9 p.x/\N9 p.y)(es:List Int)(fr:Nat)(done:List Int)(hfr:fr<=pts.length)(he:kX fr es pts.length)(n:B)(a:Int)(m:Bool):
  ah9 gl (nS s init ⟨n,a,m,pts.take fr,done,[],[],[],[]⟩) ((eQ pts fr es).map O3) (nS s init ⟨n,a,m,pts,done++es,[],[],[],[]⟩):=by
 induction es generalizing fr done with
 |nil=>simp only[kX] at he;subst he;rw[akr,akR];exact .nil _ _
 |cons e es ih=>
  obtain⟨h1,h2,h3⟩:=he;have hmem:∀p∈(pts.take (e.toNat+1)).drop fr,N9 p.x/\N9 p.y:=fun p hq=>hp p (List.mem_of_mem_take (List.mem_of_mem_drop hq))
  have hlen:((pts.take (e.toNat+1)).drop fr).length=e.toNat+1 - fr:=by rw[ak0,akH];omega
  have hne:(pts.take (e.toNat+1)).drop fr≠[]:=fun h0=>by
   rw[h0] at hlen;simp only[ln] at hlen;omega
  rw[eQ,if_neg (by omega),akv];refine .cons (iK (by decide) (Lt _ hmem 0).2.2.2) (acd hmem hne) ?_;have e1:pts.take fr++(pts.take (e.toNat+1)).drop fr=pts.take (e.toNat+1):=by have:=akS fr (pts.take (e.toNat+1));rw[List.take_take,Nat.min_eq_left (by omega)] at this;exact this
  have e2:(((pts.take fr).length+((pts.take (e.toNat+1)).drop fr).length:Nat):Int) - 1=e:=by rw[hlen,akH];omega
  have:=ih (e.toNat+1) (done++[e]) (by omega) h3;simp only[e1,e2];simpa using this
end
end
section
open Go.RowKit
theorem XX (t:B)(h:∀(j:Nat) (s:B),opNames[j]? =some s->s≠t):qP t=0:=by rw[qP,if_neg];intro hm;obtain⟨j,hj⟩:=akG.1 hm;exact h j t hj rfl
theorem aaU (t:B)(k:Nat)(h:opNames[k]? =some t)(hl:∀(j:Nat) (s:B),j<k->opNames[j]? =some s->s≠t):qP t=(k:Int)+1:=by
 rw[qP,if_pos (akt h)];have:opNames.findIdx (· ==t)=k:=by rw[List.findIdx_eq (akn.1 h).1];obtain⟨hk,hg⟩:=akn.1 h;refine⟨by simp[hg],fun j hj=> ?_⟩;have:=hl j opNames[j] hj (ako (by omega));simpa using this
 rw[this]
theorem wV:opNames.length=39:=by decide
theorem NK (k:Nat)(s:B)(h:opNames[k]? =some s)(w:World):(Instr.index 144 (.agg (strs opNames).toArray) (.int .i64 (k:Int))).run Tryz.prog w= .ok (.string ⟨s.toArray⟩) w:=by
 have hk:k<39:=by have:=(akn.1 h).1;rw[wV] at this;exact this
 have hs:=strs_get h;have hk2:(k:Int)<39:=by omega
 have hk3:(0:Int)<=k:=by omega
 simp[Instr.index,go_sem,hk2,hk3,hs];omega
theorem Qd:(strs opNames).toArray.size=39:=by simp[uJ,wV]
theorem QI (w:World)(t:B)(hT:aiD w 0 (strs opNames)):Calls Tryz.prog 25 #[.string ⟨t.toArray⟩] w fun e w'=>e= .returned (.tuple #[.int .i64 (qP t),.bool (qP t !=0)])/\w=w':=by
 obtain⟨ty,fz,hb⟩:=hT;have hix:=hd0 NK;have hsz:=Qd;have hpost:Hid (∀k:Nat,(∀j s,j<k->opNames[j]? =some s->s≠t)->((opNames[k]? =some t->qP t=(k:Int)+1)/\(39<=k->qP t=0))):=fun k hl=>by
  refine⟨fun h=>aaU t k h hl,fun hk=>XX t fun j s hj=>hl j s ?_ hj⟩;have:=(akn.1 hj).1;rw[wV] at this;omega
 generalize (strs opNames).toArray=cs at*
 have JV:=hd0 (show(Tryz.prog.info? 144).map (·.size)=some cs.size by rw[hsz];kernel_rfl);clear hsz;go_enter Tryz.func25,Tryz.ntmps25
 go_wp2_with (refine wpList_load_row rfl 144 (.global 0) rfl 0 rfl ty cs fz _ hb Tryz.underlying144 rfl JV.out ?_)
 go_loop [7] (fun i=>∃k:Nat,k<=39/\i= .int .i64 k/\Hid (∀j s,j<k->opNames[j]? =some s->s≠t)) (fun i=>39 - (intOf i).toNat)
 case atStart=>exact⟨0,by omega,rfl,fun j s hj=>by omega⟩
 case round=>
  obtain⟨k,hk,rfl,hl⟩:=hrel;by_cases hlt:k<39
  ·obtain⟨s,hs⟩:∃s,opNames[k]? =some s:=⟨_,ako (by rw[wV];exact hlt)⟩
   have hrun:=hix.out k s hs;by_cases he:s=t
   ·have hres:=hd0 ((hpost.out k hl.out).1 (by rw[hs,he]));have e1:(s==t)=true:=by simp[he]
    clear hs he;go_wp2
    go_ret2
    rw[hres.out];refine⟨?_,rfl⟩;have:(((k:Int)+1) !=0)=true:=by simp;omega
    rw[this];rfl
   have hnx:Hid (∀j s,j<k+1->opNames[j]? =some s->s≠t):=fun j s' hj hs'=>by
    by_cases hjk:j=k
    ·subst hjk;rw[hs] at hs';cases hs';exact he
    exact hl.out j s' (by omega) hs'
   have e1:(s==t)=false:=by simpa using he
   clear hs he;go_wp2
   go_round
   case rel=>exact⟨k+1,by omega,by simp,hnx⟩
   case measure=>simp[intOf];omega
  have hres:=hd0 ((hpost.out k hl.out).2 (by omega));go_wp2
  go_ret2
  rw[hres.out];exact⟨rfl,rfl⟩
end
section
open Go.RowKit Go.Sort
theorem IY {ops:Array Oper}{o:Oper}{a:Act}{K:Act->World->Prop}{Q:Exit->Act->World->Prop}{E:Prop}(hgd:o.guard=none)(s x:Operand)
  (ho:o.op= .call {callee:= .builtin .append,args:= #[s,x],argTypes:= #[48,48]})
  (w1:World) (hsz:Nat) (hh:w1.heap.size=hsz) (base n c m:Nat) (A:Option Addr) (xs:List Value) (us:List B) (hm:us.length=m) (hs:a.eval s= .slice A n c) (hx:a.eval x= .slice (some ⟨hsz,0,none⟩) m m)
  (hown:w1.ownsRow base 9 1 (.slice A n c) n xs) (hn:n+m<=1000000000000) (hb:base<=w1.heap.size)
  (h:∀A' c' w',w'.ownsRow base 9 1 (.slice A' (n+m) c') (n+m) (xs++strs us)->w1.grownBy w' (Value.slice A n c).ownBlock->K (a.put o.dst (.slice A' (n+m) c')) w'):
  if Region.wanted o (yielded ops a.tmps)=true then Oper.wp Tryz.prog o a (w1.alloc (.cells (strs us).toArray 9)) K Q else E:=by
 subst hh;subst hm;obtain⟨i0,hi0,hz0,hz1,hz2⟩:=info_parts BN;refine jY _ hgd s x 48 ho base 9 i0 _ 1 16 Tryz.underlying48 hi0 hz0 hz1 hz2 rfl (by decide) (.slice A n c) n xs hs (hown.alloc _) (w1.heap.size+1) (some ⟨w1.heap.size,0,none⟩) us.length us.length (strs us) hx (Rd.newAt _ _ rfl (strs us).toArray 9 us.length 1 (by simp[uJ])) (DF us) (by simp only[maxLen];omega) (by omega) (by simp;omega) ?_;intro v' w' ho' hg _;obtain⟨A',c',rfl⟩:=yl ho';refine h A' c' w' ho' ⟨hg.os,hg.tape,hg.output,nt (by simp) hg.size,fun i hi hne=> ?_⟩;exact(hg.block i (by simp;omega) hne).trans (Below.heap_alloc _ _ _ hi)
theorem Tabs.drew {w:World}(h:Tabs w):Tabs w.drew:=⟨h.ops,h.anch,h.kinds,h.pow⟩
theorem jF {w w':World}(h:Below w.drew.heap.size w.drew w'):Below w.heap.size w w':=⟨h.os,h.tape,h.output,h.size,h.block⟩
theorem bt {a b c:World}(h:Below a.heap.size a b)(k:Below b.heap.size b c):Below a.heap.size a c:=h.trans (k.mono h.size)
theorem qI {w w':World}{row:Option Nat}(hg:w.grownBy w' row){b o:Nat}{v:Value}(h:w.cell? ⟨b,o,none⟩=some v)(hne:some b≠row):w'.cell? ⟨b,o,none⟩=some v:=(World.cell?_of_block (a:=⟨b,o,none⟩) (hg.block b (World.block_lt_of_cell? w _ h) hne)).trans h
theorem Ej (l:List aiH):(l.flatMap jM).length=l.length*3:=by
 induction l with
 |nil=>rfl
 |cons x l ih=>simp only[akD,la,ih,jM,aF,ln];omega
theorem Pr.below {w w':World}{Bd g:Nat}{fc:Nat->Value}{txt:B}(h:Pr w Bd g fc txt)(hb:Below w.heap.size w w'):Pr w' Bd g fc txt:=by obtain⟨ad,v,h1,h2,h3,h4⟩:=h;exact⟨ad,v,h1,(hb.block g (Bk.lt h2)).trans h2,h3,own_below h4 hb⟩
theorem kQ {w:World}{base n c:Nat}{A:Option Addr}{ws:List B}(h:w.ownsRow base 9 1 (.slice A n c) n (strs ws)):Sl ai4 1 w (FT w) A ws:=Sl.ail h (Oe _ _ _) (fun _ _ hb=>EL hb (by decide) (by decide)) (by decide)
theorem Vd (w:World)(Bd g:Nat)(fc:Nat->Value)(txt:B)(A:Option Addr)(c:Nat)(l:List aiH)(hT:Tabs w)(hp:Pr w Bd g fc txt)(hBd:Bd<=w.heap.size)(hA:Sl aiI 3 w (FT w) A l)(hl:l.length<=10000000000)(hlen:txt.length+(au iM (l.flatMap jM)).length<=1000000000000):
  Calls Tryz.prog 43 #[.pointer (some ⟨g,0,none⟩),.agg #[.slice A l.length c]] w fun e w'=>e= .returned (.tuple #[])/\Pr w' Bd g fc (txt++au iM (l.flatMap jM))/\KP w w'/\Below Bd w w':=by
 have hTL:=Nat.le_of_eq (Ej l);go_enter Tryz.func43,Tryz.ntmps43
 go_wp2;go_loopw [4,10] (fun v i wr=>∃k:Nat,k<=l.length/\i= .int .i64 k/\aix w ((l.take k).flatMap jM) v wr) (fun _ i _=>l.length - (intOf i).toNat)
 case atStart=>exact⟨0,nz _,rfl,none,0,rfl,⟨rfl,.inl ⟨rfl,rfl⟩⟩,(akl _ _).alloc (nr _) _⟩
 case round=>
  obtain⟨k,hk,rfl,A3,c3,rfl,hown,hbl⟩:=hrel;have hlk:=Ej (l.take k);rw[akH,Nat.min_eq_left hk] at hlk;by_cases hlt:k<l.length
  ·obtain⟨b,o,x,rfl,-,hx,q0,q1,q2,r0,r1,r2⟩:=((KP.below hbl).sl aiI.ok hA).ajB hlt;have HS:=hd0 (bH jM l k x hx.out);generalize hws:(l.take k).flatMap jM=ws at*
   have s0:=hbl.size;have hN0:aiG w ws ws.length A3 c3 wr:=⟨rfl,hown,hbl⟩
   have hll:ws.length<=100000000000:=by omega
   have RX:ws.length+3<=1000000000000:=by omega
   obtain⟨x0,x1,x2⟩:=x;dsimp only at q0 q1 q2 r0 r1 r2;have hT1:=hT.all hbl;clear hx hws hlk;have hne:Hid (some wr.heap.size≠(Value.slice A3 ws.length c3).ownBlock):=fun e=>by have:=(hown.lt _ e.symm).2;omega
   go_wp2_with fail
   obtain⟨W1,hW1⟩:∃W1,wr.alloc (.cells #[.int .i64 x0,.int .i64 x1,.int .i64 x2] 101)=W1:=⟨_,rfl⟩
   rw[hW1];have hb0:Below wr.heap.size wr W1:=by rw[<-hW1];exact(akl _ _).alloc (nr _) _
   have hT2:=hT1.all hb0;have k0:W1.cell? ⟨wr.heap.size,0,none⟩=some (.int .i64 x0):=by rw[<-hW1];simp[go_sem]
   have k1:W1.cell? ⟨wr.heap.size,1,none⟩=some (.int .i64 x1):=by rw[<-hW1];simp[go_sem]
   have k2:W1.cell? ⟨wr.heap.size,2,none⟩=some (.int .i64 x2):=by rw[<-hW1];simp[go_sem]
   have z0:=hb0.size;clear hW1 q0 q1 q2
   go_region_held3 (fun w'=>w'.cell? ⟨wr.heap.size,0,none⟩=some (.int .i64 x0)/\w'.cell? ⟨wr.heap.size,1,none⟩=some (.int .i64 x1)/\w'.cell? ⟨wr.heap.size,2,none⟩=some (.int .i64 x2))
    (first
     |exact⟨qI hg4 (ae hc3 k0) hne.out,qI hg4 (ae hc3 k1) hne.out,qI hg4 (ae hc3 k2) hne.out⟩
     |exact⟨ae hc3 k0,ae hc3 k1,ae hc3 k2⟩
     |exact⟨ae hc2 k0,ae hc2 k1,ae hc2 k2⟩
     |exact⟨ae hc1 k0,ae hc1 k1,ae hc1 k2⟩
     |go_keep)
    (first
     |(go_at_call 42;refine(aS _ x0 hT2.drew r0).mono ?_;rintro e w1 ⟨rfl,hb1⟩;have hc1:=jF hb1;have z1:=hc1.size)
     |(go_at_call 42;refine(aS _ x1 (hT2.all hc1) r1).mono ?_;rintro e w2 ⟨rfl,hb2⟩;have hc2:=bt hc1 hb2;have z2:=hc2.size)
     |(go_at_call 42;refine(aS _ x2 (hT2.all hc2) r2).mono ?_;rintro e w3 ⟨rfl,hb3⟩;have hc3:=bt hc2 hb3;have z3:=hc3.size)
     |(refine IY (by rfl) (.tmp 14) (.tmp 24) (by rfl) w3 w3.heap.size rfl w.heap.size ws.length c3 3 A3 (strs ws) [ag x0,ag x1,ag x2] rfl (by go_simp) (by go_simp) (own_below hown (bt hb0 hc3)) RX (nt s0 (nt z0 z3)) ?_;intro A4 c4 w4 fD hg4))
   have Dp:=hN0.next (bt hb0 hc3) fD hg4;go_wp2;go_roundw
   case rel=>exact⟨k+1,by omega,by simp,by rw[HS.out];exact Dp.s⟩
   case measure=>simp[intOf];omega
  obtain rfl:k=l.length:=by omega
  have HL:Hid ((l.take l.length).flatMap jM=l.flatMap jM):=by show _=_;rw[akr]
  rw[<-HL.out] at hlen hTL;generalize hws:(l.take l.length).flatMap jM=ws at*
  have hb3:=hp.below hbl;have hs3:=kQ hown;have hw3:ws.length<=1000000000000:=by omega
  clear hws hlk;go_wp2_with (go_at_call 41;((with_reducible refine(BZ _ Bd g fc txt iM A3 c3 ws hb3 hs3 hlen hw3).mono ?_);rintro e w4 ⟨rfl,Oz,hk4,hb4⟩))
  go_end0
  rw[<-HL.out];exact⟨rfl,Oz,(KP.below hbl).trans hk4,(hbl.mono hBd).trans hb4⟩
end
section
open Go.RowKit
theorem aaT {g:ahR}(h:nameB g.name=true):MP g≠[]/\∀w∈MP g,bM w=true:=by
 refine iK (by decide) (iK (pK h) (iK (qF _) fun w hw=> ?_).2).2;split at hw
 ·simp only[akm] at hw;subst hw;decide
 simp at hw
theorem aaO {gl:Gl}{s:PS}{g:ahR}(h:nameB g.name=true)(ha:N9 g.advance)(hl:gl.lookup g.name=some s.f.ahO.length):
  stmt gl s (MP g)= .ok (nS s s.f.ahO ⟨g.name,g.advance,g.mark,[],[],[],[],[],[]⟩):=by
 have hv:fF gl g.name=s.f.ahO.length:=by rw[fF,hl];rfl
 rw[MP,Lp];cases hm:g.mark<;>simp[gq,Eb h,gU _ ha,(eu _ ha).2,hv,nS]
def uu (gs:List ahR)(all:Bool)(g:ahR):List (List B):=MP g::((eQ g.points 0 g.ends).map O3++(g.parts.map (Dq gs)++(g.anchors.map Dh++(g.deltas.map Dn++if all|| !g.hint.isEmpty then [hiL g.hint] else []))))
theorem Q3 {gl:Gl}{gs:List ahR}(hg:aiy gl gs)(all:Bool)(s:PS)(g:ahR)(h:OkG gs.length g)(hl:gl.lookup g.name=some s.f.ahO.length):
  ah9 gl s (uu gs all g) (nS s s.f.ahO g):=by
 refine .cons (aaT h.name) (aaO h.name h.adv hl) ?_;have r1:=Ql (gl:=gl) (s:=s) (init:=s.f.ahO) g.points h.pts g.ends 0 [] (nz _) h.ends g.name g.advance g.mark;rw[List.take_zero,akX] at r1;refine r1.app ?_;have r2:=ah9.each (gl:=gl) g.parts (Dq gs) (fun d=>nS s s.f.ahO ⟨g.name,g.advance,g.mark,g.points,g.ends,d,[],[],[]⟩) (fun p hp=>abA hg (h.parts p hp).1) (fun done p rest e=>acu hg (h.parts p (by simp[e])));refine r2.app ?_;have r3:=ah9.each (gl:=gl) g.anchors Dh (fun d=>nS s s.f.ahO ⟨g.name,g.advance,g.mark,g.points,g.ends,g.parts,d,[],[]⟩) (fun p hp=>aca ⟨(h.anch p hp).1,(h.anch p hp).2.1⟩) (fun done p rest e=>abp (h.anch p (by simp[e])));refine r3.app ?_;have r4:=ah9.each (gl:=gl) g.deltas Dn (fun d=>nS s s.f.ahO ⟨g.name,g.advance,g.mark,g.points,g.ends,g.parts,g.anchors,d,[]⟩) (fun p hp=>abq p) (fun done p rest e=>aau (h.aid p (by simp[e])));refine r4.app ?_;split
 ·have:=ah9.one (gl:=gl) (OI h.hint (by decide:bM kP=true)) (abP (gl:=gl) (s:=s) (init:=s.f.ahO) (g:=⟨g.name,g.advance,g.mark,g.points,g.ends,g.parts,g.anchors,g.deltas,[]⟩) h.hint);exact this
 rename_i hn;have e:g.hint=[]:=by
  cases hh:g.hint with
  |nil=>rfl
  |cons a r=>rw[hh] at hn;simp at hn
 have e2:g=⟨g.name,g.advance,g.mark,g.points,g.ends,g.parts,g.anchors,g.deltas,[]⟩:=by conv=>rhs;rw[<-e]
 conv=>arg 4;rw[e2]
 exact .nil _ _
theorem Na {gl:Gl}{gs:List ahR}(hg:aiy gl gs)(all:Bool)(h:∀g∈gs,OkG gs.length g)(s:PS)(hs:s.f.ahO=[]):ah9 gl s (gs.flatMap (uu gs all)) {s with f:= {s.f with ahO:=gs}} :=by
 have key:=ah9.ajs (gl:=gl) gs (uu gs all) (fun d=> {s with f:= {s.f with ahO:=d}}) (fun done g rest e=> ?_)
 ·have e:({s with f:= {s.f with ahO:=[]}} :PS)=s:=by rw[<-hs]
  rw[e] at key;exact key
 exact Q3 hg all {s with f:= {s.f with ahO:=done}} g (h g (by simp[e])) (hg.at' done.length g (by rw[e];simp))
theorem UA {gl:Gl}(l:List aiM)(h:∀a∈l,nameB a.name=true/\N9 a.min'/\N9 a.aiv/\N9 a.max')(s:PS)(hs:s.f.ahQ=[]):ah9 gl s (l.map yN) {s with f:= {s.f with ahQ:=l}} :=by
 have key:=ah9.each (gl:=gl) l yN (fun d=> {s with f:= {s.f with ahQ:=d}}) (fun a ha=>abg (h a ha).1) (fun done a rest e=>abN (h a (by simp[e])));have e:({s with f:= {s.f with ahQ:=[]}} :PS)=s:=by rw[<-hs]
 rw[e] at key;exact key
theorem Uh {gl:Gl}(l:List Region)(h:∀r∈l,∀t∈r.ah4,N9 t.start/\N9 t.peak/\N9 t.stop)(s:PS)(hs:s.f.regions=[]):ah9 gl s (l.map zY) {s with f:= {s.f with regions:=l}} :=by
 have key:=ah9.each (gl:=gl) l zY (fun d=> {s with f:= {s.f with regions:=d}}) (fun a ha=>aa1 a) (fun done a rest e=>ab3 (h a (by simp[e])));have e:({s with f:= {s.f with regions:=[]}} :PS)=s:=by rw[<-hs]
 rw[e] at key;exact key
theorem RP {gl:Gl}(l:List (List Ins))(h:∀p∈l,xg p)(s:PS)(hs:s.f.funcs=[]):ah9 gl s (l.map Jz) {s with f:= {s.f with funcs:=l}} :=by
 have key:=ah9.each (gl:=gl) l Jz (fun d=> {s with f:= {s.f with funcs:=d}}) (fun a ha=>OI (h a ha) (by decide)) (fun done a rest e=>aak (h a (by simp[e])));have e:({s with f:= {s.f with funcs:=[]}} :PS)=s:=by rw[<-hs]
 rw[e] at key;exact key
theorem Rf {gl:Gl}{gs:List ahR}(hg:aiy gl gs)(l:List Chr)(h:∀c∈l,N9 c.rune/\In gs.length c.ahU)(s:PS)(hs:s.f.chars=[]):ah9 gl s (l.map (yP gs)) {s with f:= {s.f with chars:=l}} :=by
 have key:=ah9.each (gl:=gl) l (yP gs) (fun d=> {s with f:= {s.f with chars:=d}}) (fun a ha=>abl hg (h a ha).2) (fun done a rest e=>abS hg (h a (by simp[e])));have e:({s with f:= {s.f with chars:=[]}} :PS)=s:=by rw[<-hs]
 rw[e] at key;exact key
theorem Rx {gl:Gl}(l:List aip)(h:∀x∈l,nameB x.name=true/\∀n∈x.ahP,N9 n)(s:PS)(hs:s.f.features=[]):ah9 gl s (l.map CZ) {s with f:= {s.f with features:=l}} :=by
 have key:=ah9.each (gl:=gl) l CZ (fun d=> {s with f:= {s.f with features:=d}}) (fun a ha=>aby (h a ha).1) (fun done a rest e=>aaB (h a (by simp[e])));have e:({s with f:= {s.f with features:=[]}} :PS)=s:=by rw[<-hs]
 rw[e] at key;exact key
def CX (gs:List ahR)(ws:List (List Int)->List B)(l:Lookup):List (List B):=KR l::l.rules.map (fun r=>dF::(ws r.back++[47]::ws r.in'++[47]::ws r.ahead++[62]::outW gs l.kind r))
theorem Kv {gl:Gl}{gs:List ahR}(hg:aiy gl gs)(hn:gs.length<=1000)(l:List Lookup)(h:∀x∈l,1<=x.kind/\x.kind<=8/\∀r∈x.rules,OkR gs.length x.kind r)(ws:List (List Int)->List B)
  (hw:∀x:List (List Int),(∀y∈x,∀n∈y,In gs.length n)->BR gs (ws x) x/\∀w∈ws x,bM w=true) (s:PS) (hs:s.f.ahP=[]):ah9 gl s (l.flatMap (CX gs ws)) {s with f:= {s.f with ahP:=l}} :=by
 have key:=ah9.ajs (gl:=gl) l (CX gs ws) (fun d=> {s with f:= {s.f with ahP:=d}}) (fun done x rest e=>by
  obtain⟨h1,h2,h3⟩:=h x (by simp[e]);exact NU hg hn {s with f:= {s.f with ahP:=done}} x ⟨h1,h2⟩ h3 ws hw)
 have e:({s with f:= {s.f with ahP:=[]}} :PS)=s:=by rw[<-hs]
 rw[e] at key;exact key
theorem U4 {gl:Gl}{u:Int}(h:N9 u):ah9 gl ps0 [[jK,ag u]] {ps0 with unit:=true,f:= {f0 with unit:=u}} :=by refine .one (iK (by decide) (by simpa using qF u)) ?_;rw[Ot];simp[lM,gU _ h,(eu _ h).2,ps0,f0]
def uY (f:Fnt):List (List B):=[[jK,ag f.unit]]++(f.ahQ.map yN++(f.regions.map zY++((if f.cvt.isEmpty then [] else [kF::f.cvt.map ag])++(f.funcs.map Jz++(f.ahO.flatMap (uu f.ahO false)++(f.chars.map (yP f.ahO)++(f.ahP.flatMap (CX f.ahO (bJ f.ahO))++f.features.map CZ)))))))
theorem PH {gl:Gl}{f:Fnt}(h:aiV f)(hg:aiy gl f.ahO):ah9 gl ps0 (uY f) ⟨f,true,[]⟩:=by
 refine(U4 h.unit).app ?_;refine(UA f.ahQ h.ahQ _ rfl).app ?_;refine(Uh f.regions h.regs _ rfl).app ?_;have rc:∀s:PS,s.f.cvt=[]->ah9 gl s (if f.cvt.isEmpty then [] else [kF::f.cvt.map ag]) {s with f:= {s.f with cvt:=f.cvt}} :=fun s hs=>by
  split
  ·rename_i he;have e:f.cvt=[]:=by simpa using he
   have e2:({s with f:= {s.f with cvt:=f.cvt}} :PS)=s:=by rw[e,<-hs]
   rw[e2];exact .nil _ _
  have:=ah9.one (gl:=gl) (iK (by decide:bM kF=true) (GH f.cvt)) (aaW (s:=s) h.cvt);rw[hs] at this;exact this
 refine(rc _ rfl).app ?_;refine(RP f.funcs h.funcs _ rfl).app ?_;refine(Na hg false h.ahO _ rfl).app ?_;refine(Rf hg f.chars h.chars _ rfl).app ?_;refine(Kv hg h.few f.ahP h.ahP (bJ f.ahO) (fun x hx=>⟨Xp hg x hx,fun w hw=>(yt hg x hx w hw).2.2⟩) _ rfl).app ?_;exact Rx f.features h.ahZ _ rfl
def sW (L:List (List B)):Prop:=∀l∈L,∀w r,l=w::r->w≠dM
theorem mZ (L R:List (List B))(h:sW L)(n:Nat):aP n (L++R)=aP n R:=by
 induction L with
 |nil=>rfl
 |cons l L ih=>
  have:=ih (fun x hx=>h x (by simp[hx]));cases l with
  |nil=>rw[akC,PR];exact this
  |cons w r=>rw[akC,iP,if_neg (h (w::r) (by simp) w r rfl)];exact this
theorem uo {a b:List (List B)}(ha:sW a)(hb:sW b):sW (a++b):=fun l hl=>by
 rw[akq] at hl;rcases hl with hl|hl
 ·exact ha l hl
 exact hb l hl
theorem og {α:Type}(l:List α)(f:α->List B)(h:∀x∈l,∀w r,f x=w::r->w≠dM):sW (l.map f):=fun y hy=>by
 rw[akQ] at hy;obtain⟨x,hx,rfl⟩:=hy;exact h x hx
theorem WL {α:Type}(l:List α)(f:α->List (List B))(h:∀x∈l,sW (f x)):sW (l.flatMap f):=fun y hy=>by
 rw[akZ] at hy;obtain⟨x,hx,hy⟩:=hy;exact h x hx y hy
def lH:Nat->List ahR->Gl
 |_,[]=>[]
 |n,g::gs=>(g.name,n)::lH (n+1) gs
theorem Je (G:List ahR)(all:Bool)(gs:List ahR)(hn:∀g∈gs,nameB g.name=true)(R:List (List B))(hR:sW R)(n:Nat):aP n (gs.flatMap (uu G all)++R)=lH n gs:=by
 induction gs generalizing n with
 |nil=>simpa [lH,aP] using mZ R [] hR n
 |cons g gs ih=>
  have hno:sW ((eQ g.points 0 g.ends).map O3++(g.parts.map (Dq G)++(g.anchors.map Dh++(g.deltas.map Dn++if all|| !g.hint.isEmpty then [hiL g.hint] else [])))):=by
   refine uo (og _ _ fun x _ w r e=> ?_) (uo (og _ _ fun x _ w r e=> ?_) (uo (og _ _ fun x _ w r e=> ?_) (uo (og _ _ fun x _ w r e=> ?_) ?_)))
   ·injection e with e _;rw[<-e];decide
   ·injection e with e _;rw[<-e];decide
   ·injection e with e _;rw[<-e];decide
   ·injection e with e _;rw[<-e];decide
   split
   ·intro l hl w r e;simp only[akm] at hl;subst hl;injection e with e _
    rw[<-e];decide
   intro l hl;simp at hl
  rw[akD,uu,akC,akC,MP,iP,if_pos rfl,wO];simp only[hn g (by simp),if_true];rw[aky,mZ _ _ hno,ih (fun x hx=>hn x (by simp[hx]))];rfl
theorem Xz (gs:List ahR)(h:(gs.map (·.name)).Nodup)(n:Nat)(i:Nat)(g:ahR)(hi:gs[i]? =some g):(lH n gs).lookup g.name=some (n+i):=by
 induction gs generalizing n i with
 |nil=>simp at hi
 |cons a gs ih=>
  rw[akv,List.nodup_cons] at h;cases i with
  |zero=>simp only[akw,akM] at hi;subst hi;simp[lH,List.lookup]
  |succ i=>
   simp only[akz] at hi;have hne:g.name≠a.name:=fun e=>h.1 (by rw[<-e];exact List.mem_map_of_mem (akt hi))
   have hb:(g.name==a.name)=false:=by simpa using hne
   rw[lH,List.lookup,hb];show(lH (n+1) gs).lookup g.name=_;rw[ih h.2 (n+1) i hi];congr 1
   omega
theorem ab2 (gs:List ahR)(ws:List (List Int)->List B)(l:List Lookup):sW (l.flatMap (CX gs ws)):=WL _ _ fun x _=>by
 intro y hy w r e;rw[CX,akx,akQ] at hy;rcases hy with rfl|⟨q,_,rfl⟩
 ·injection e with e _;rw[<-e];decide
 injection e with e _;rw[<-e];decide
theorem aaE (l:List aiM):sW (l.map yN):=og _ _ fun x _ w r e=>by injection e with e _;rw[<-e];decide
theorem abO (l:List Region):sW (l.map zY):=og _ _ fun x _ w r e=>by injection e with e _;rw[<-e];decide
theorem abh (l:List (List Ins)):sW (l.map Jz):=og _ _ fun x _ w r e=>by injection e with e _;rw[<-e];decide
theorem abj (gs:List ahR)(l:List Chr):sW (l.map (yP gs)):=og _ _ fun x _ w r e=>by injection e with e _;rw[<-e];decide
theorem acp (l:List aip):sW (l.map CZ):=og _ _ fun x _ w r e=>by injection e with e _;rw[<-e];decide
theorem abR (u:B):sW [[jK,u]]:=fun l hl w r e=>by
 simp only[akm] at hl;subst hl;injection e with e _
 rw[<-e];decide
theorem Ri {f:Fnt}(h:aiV f):aiy (aP 0 (uY f)) f.ahO:=by
 have hc:sW (if f.cvt.isEmpty then [] else [kF::f.cvt.map ag]):=by
  split
  ·intro l hl;simp at hl
  intro l hl w r e;simp only[akm] at hl;subst hl;injection e with e _
  rw[<-e];decide
 have e:aP 0 (uY f)=lH 0 f.ahO:=by rw[uY,mZ _ _ (abR _),mZ _ _ (aaE _),mZ _ _ (abO _),mZ _ _ hc,mZ _ _ (abh _)];exact Je _ _ _ (fun g hg=>(h.ahO g hg).name) _ (uo (abj _ _) (uo (ab2 _ _ _) (acp _))) 0
 rw[e];exact⟨fun i g hi=>by rw[Xz _ h.apart 0 i g hi,ak3],fun g hg=>(h.ahO g hg).name⟩
theorem Nq (L:List (List B))(f:Fnt)(b:Bool)(c:List (B×List Int))(h:ah9 (aP 0 L) ps0 L ⟨f,b,c⟩):jv (L.flatMap sO)= .ok f:=by rw[jv,P7 L h.1,Tv,h.2 1];rfl
theorem xE {α:Type}(l:List α)(f:α->List B):(l.map f).flatMap sO=l.flatMap (fun x=>sO (f x)):=by
 induction l with
 |nil=>rfl
 |cons a r ih=>simp[ih]
theorem NW (gs:List ahR)(g:ahR):(uu gs false g).flatMap sO=dO gs g:=by
 rw[uu,dO];simp only[akD,akT,xE,aky];congr 1
 congr 1
 congr 1
 congr 1
 congr 1
 cases h:g.hint.isEmpty<;>simp[hiL,sO]
theorem MJ (gs:List ahR)(l:Lookup):(CX gs (bJ gs) l).flatMap sO=dJ gs l:=by rw[CX,dJ];simp only[akD,xE];rfl
theorem Fh (f:Fnt):(uY f).flatMap sO=kw f:=by
 rw[uY,kw];simp only[akT,xE,aky,akD,ak5,akR,List.flatMap_assoc,NW,MJ];congr 1
 congr 1
 congr 1
 congr 1
 cases h:f.cvt.isEmpty<;>simp[sO]
theorem RG {f:Fnt}(h:aiV f):jv (kw f)= .ok f:=by rw[<-Fh];exact Nq _ _ _ _ (PH h (Ri h))
def aia (e size:Nat)(w:World)(rb p:Nat)(err:Int)(n:Nat)(xs:List Value)(v:Value)(wr:World):Prop:=∃A c,v= .slice A n c/\wr.ownsRow w.heap.size e size (.slice A n c) n xs/\Rdr wr rb p err/\w.grownBy wr (some rb)
def MB (e size:Nat)(w:World)(rb p:Nat)(err:Int)(n:Nat)(xs:List Value)(en:Ending)(w':World):Prop:=∃v,en= .returned v/\aia e size w rb p err n xs v w'
theorem aia.start {e size:Nat}{w w1:World}{rb p:Nat}{err:Int}(h:Rdr w1 rb p err)(hg:w.grownBy w1 (some rb)):aia e size w rb p err 0 [] (.slice none 0 0) w1:=⟨none,0,rfl,World.ownsRow_nil _ _ _ _,h,hg⟩
theorem bQ {w:World}{base e size n g:Nat}{v:Value}{xs:List Value}{t:TypeId}{cs:Array Value}(h:w.ownsRow base e size v n xs)(hb:Bk w g t cs)(hne:t≠e):v.ownBlock=none\/v.ownBlock≠some g:=by
 cases hv:v.ownBlock with
 |none=>exact .inl rfl
 |some k=>
  refine .inr (fun e'=> ?_);injection e' with e'
  subst e';obtain⟨cur,hk⟩:=aV h hv;exact hne (dR hb hk).1
theorem aia.next {e size:Nat}{w wr w1 w2:World}{rb p:Nat}{err err':Int}{n n':Nat}{xs xs':List Value}{A A2:Option Addr}{c c2:Nat}(h1:wr.ownsRow w.heap.size e size (.slice A n c) n xs)(h2:Rdr wr rb p err)(h3:w.grownBy wr (some rb))
  (hr:Rdr w1 rb p err') (hg:wr.grownBy w1 (some rb)) (ho:w2.ownsRow w.heap.size e size (.slice A2 n' c2) n' xs') (hg2:w1.grownBy w2 (Value.slice A n c).ownBlock) (hne:Jw≠e):aia e size w rb p err' n' xs' (.slice A2 n' c2) w2:=by
 have ho1:=h1.kept hg (bQ h1 h2 hne);exact⟨A2,c2,rfl,ho,Bk.grown hr hg2 ho1 hne,IC (bZ h3 hg) hg2 (fun g e=>(h1.lt g e).1)⟩
theorem G9 {w w':World}{rb p:Nat}{err:Int}{A:Option Addr}{n:Nat}{cs:List Value}(h:RdT w 124 A n 3 cs)(hr:Rdr w rb p err)(hg:w.grownBy w' (some rb)):RdT w' 124 A n 3 cs:=h.grown hg (fun g e=>by cases e;exact⟨_,_,hr,by decide⟩)
theorem wX {w wr:World}{rb p:Nat}{err:Int}{A:Option Addr}{n k:Nat}{ws:List P3}(hw:RdT w 124 A n 3 (dA ws))(hr:Rdr w rb p err)(hg:w.grownBy wr (some rb))(hk:k<n):
  ∃b o x y z,A=some ⟨b,o,none⟩/\Hid (ws[k]? =some (x,y,z))/\wr.cell? ⟨b,o+k*3,none⟩=some (.int .i64 x)/\wr.cell? ⟨b,o+k*3+1,none⟩=some (.int .i64 y)/\wr.cell? ⟨b,o+k*3+2,none⟩=some (.string ⟨z.toArray⟩):=by
 obtain⟨b,o,x,y,z,e,-,hp,q1,q2,q3⟩:=(G9 hw hr hg).rd.at3 hk;exact⟨b,o,x,y,z,e,hp,q1,q2,q3⟩
def af (ws:List P3):List B:=ws.map (·.2.2)
theorem iF (ws:List P3):(af ws).length=ws.length:=by simp[af]
theorem sG {ws:List P3}{k:Nat}{x y:Int}{z:B}(h:ws[k]? =some (x,y,z)):(af ws).take (k+1)=(af ws).take k++[z]:=by obtain⟨hk,hg⟩:=akn.1 h;rw[akB (by rw[iF];exact hk)];simp[af,hg]
theorem Rdr.alloc {w:World}{rb p:Nat}{err:Int}(h:Rdr w rb p err)(o:Obj):Rdr (w.alloc o) rb p err:=Bk.alloc h o
theorem U7 {l m:List B}{z:B}(h:m=l++[z]):aW (m.map aA)=aW (l.map aA)++[.int .i64 (aA z)]:=by subst h;simp[aW,cI]
theorem Qz {l m:List B}{z:B}(err:Int)(h:m=l++[z]):fB err m=aG (fB err l) z:=by subst h;simp[fB]
theorem ug (w:World)(rb p:Nat)(err:Int)(A:Option Addr)(n c:Nat)(ws:List P3)(hR:Rdr w rb p err)(hw:RdT w 124 A n 3 (dA ws))(hl:∀x∈ws,x.2.2.length<=800000000)(hn:n<=1000000000):
  Calls Tryz.prog 124 #[.pointer (some ⟨rb,0,none⟩),.slice A n c] w (MB 3 1 w rb p (fB err (af ws)) n (aW ((af ws).map aA))):=by
 have hwl:=hd0 hw.rd.aiE;have HR:=hd0 hR;have HW:=hd0 hw;have HL:=hd0 hl;clear hR hw hl;go_enter Tryz.func124,Tryz.ntmps124
 go_wp2;go_loopw [5,10] (fun v i wr=>∃k:Nat,k<=n/\i= .int .i64 k/\aia 3 1 w rb p (fB err ((af ws).take k)) k (aW (((af ws).take k).map aA)) v wr) (fun _ i _=>n - (intOf i).toNat)
 case atStart=>exact⟨0,nz _,rfl,aia.start HR.out (World.grownBy.refl _ _)⟩
 case round=>
  obtain⟨k,hk,rfl,A4,c4,rfl,ho,hr,hg⟩:=hrel;by_cases hlt:k<n
  ·obtain⟨b,o,x,y,z,rfl,hp,q1,q2,q3⟩:=wX HW.out HR.out hg hlt;have hz:z.length<=800000000:=HL.out _ (rU hp.out);have hs:=sG hp.out;have hs1:=hd0 (U7 hs);have hs2:=hd0 (Qz err hs);have hr0:=hd0 hr;have hn1:=hd0 (dK _ rb p _ z (hr.alloc (.cells #[.int .i64 x,.int .i64 y,.string ⟨z.toArray⟩] 124)) hz);have hg0:wr.grownBy (wr.alloc (.cells #[.int .i64 x,.int .i64 y,.string ⟨z.toArray⟩] 124)) (some rb):=World.grownBy_alloc _ _ _;have hsz:=hg.size;generalize aW (((af ws).take k).map aA)=xs at*
   clear hp hs hz hr;go_wp2_with (first
    |(go_at_call 122;refine hn1.out.mono ?_;rintro e w1 ⟨rfl,hr1,hg1⟩;have hg2:=bZ hg0 hg1;have z1:=hg2.size)
    |(at_builtin;refine lq qK rfl (.tmp 14) (.tmp 19) rfl w1 _ rfl w.heap.size k c4 A4 xs #[.int .i64 (aA z)] rfl rfl rfl (ho.kept hg2 (bQ ho hr0.out (by decide))) (by simp[Value.oneCell']) (by omega) (by omega) ?_;intro A5 c5 w2 ho2 hg3 _))
   go_roundw
   case rel=>exact⟨k+1,by omega,by simp,by rw[hs1.out,hs2.out];exact aia.next ho hr0.out hg hr1 hg2 ho2 hg3 (by decide)⟩
   case measure=>simp[intOf];omega
  obtain rfl:k=n:=by omega
  have ht:Hid ((af ws).take k=af ws):=by show _=_;exact akE (by rw[iF,hwl.out];exact nr _)
  rw[ht.out] at ho hr;go_wp2;go_ret
  exact⟨_,rfl,A4,c4,rfl,ho,hr,hg⟩
end
section
open Go.RowKit Go.Sort
theorem uy (a b:B)(ha:a.length<=1000000)(hb:b.length<=1000000):∃u:B,(∀w,(Op.stringOp .add ⟨a.toArray⟩ ⟨b.toArray⟩).run Tryz.prog w= .ok (.string ⟨u.toArray⟩) w)/\u.length<=a.length+b.length/\Hid (u=a++b):=⟨a++b,fun w=>run_string_add_lists w a b (by omega) (by omega),by simp,rfl⟩
theorem RD (w:World)(Bd g:Nat)(fc:Nat->Value)(txt:B)(A:Option Addr)(c:Nat)(l:List Pt)(hT:Tabs w)(hp:Pr w Bd g fc txt)(hBd:Bd<=w.heap.size)(hA:Sl PtR 3 w (FT w) A l)(hl:l.length<=10000000000)(hlen:txt.length+(au eX (l.map jb)).length<=1000000000000):
  Calls Tryz.prog 95 #[.pointer (some ⟨g,0,none⟩),.slice A l.length c] w fun e w'=>e= .returned (.tuple #[])/\Pr w' Bd g fc (txt++au eX (l.map jb))/\KP w w'/\Below Bd w w':=by
 have hTL:(l.map jb).length<=l.length:=by simp
 go_enter Tryz.func95,Tryz.ntmps95
 go_wp2;go_loopw [4,10] (fun v i wr=>∃k:Nat,k<=l.length/\i= .int .i64 k/\aix w ((l.take k).map jb) v wr) (fun _ i _=>l.length - (intOf i).toNat)
 case atStart=>exact⟨0,nz _,rfl,by simpa using aix.nil w⟩
 case round=>
  obtain⟨k,hk,rfl,A3,c3,rfl,hown,hbl⟩:=hrel;have hlk:((l.take k).map jb).length<=k:=by simp;omega
  by_cases hlt:k<l.length
  ·obtain⟨b,o,x,rfl,-,hx,q0,q1,q2,r0,r1⟩:=((KP.below hbl).sl PtR.ok hA).pt hlt;have HS:=hd0 (lY jb l k x hx.out);generalize hws:(l.take k).map jb=ws at*
   have s0:=hbl.size;have hN0:aiG w ws ws.length A3 c3 wr:=⟨rfl,hown,hbl⟩
   have hll:ws.length<=100000000000:=by omega
   obtain⟨x0,x1,on⟩:=x;dsimp only at q0 q1 q2 r0 r1;have hT1:=hT.all hbl;have n0:=hd0 (fun w hT=>aS w x0 hT r0);have n1:=hd0 (fun w hT=>aS w x1 hT r1);have l0:=rH r0;have l1:=rH r1;have HP:Hid (jb ⟨x0,x1,on⟩=ag x0++44::ag x1++if on then [] else [42]):=rfl;generalize ag x0=t0 at*
   generalize ag x1=t1 at*
   obtain⟨u1,a1,m1,U1⟩:=uy t0 [44] (by omega) (by simp);obtain⟨u2,a2,m2,U2⟩:=uy u1 t1 (by simp only[aF,ln] at m1;omega) (by omega);obtain⟨u3,a3,m3,U3⟩:=uy u2 [42] (by simp only[aF,ln] at m1;omega) (by simp);simp only[aF,ln] at m1 m3;clear hx hws hlk r0 r1;go_wp2_with fail
   obtain⟨W1,hW1⟩:∃W1,wr.alloc (.cells #[.int .i64 x0,.int .i64 x1,.bool on] 139)=W1:=⟨_,rfl⟩
   rw[hW1];have hb0:Below wr.heap.size wr W1:=by rw[<-hW1];exact(akl _ _).alloc (nr _) _
   have hT2:=hT1.all hb0;have k0:W1.cell? ⟨wr.heap.size,0,none⟩=some (.int .i64 x0):=by rw[<-hW1];simp[go_sem]
   have k1:W1.cell? ⟨wr.heap.size,1,none⟩=some (.int .i64 x1):=by rw[<-hW1];simp[go_sem]
   have k2:W1.cell? ⟨wr.heap.size,2,none⟩=some (.bool on):=by rw[<-hW1];simp[go_sem]
   have z0:=hb0.size;clear hW1 q0 q1 q2
   go_region_held3 (fun w'=>w'.cell? ⟨wr.heap.size,0,none⟩=some (.int .i64 x0)/\w'.cell? ⟨wr.heap.size,1,none⟩=some (.int .i64 x1))
    (first
     |exact⟨ae hc2 k0,ae hc2 k1⟩
     |exact⟨ae hc1 k0,ae hc1 k1⟩
     |go_keep)
    (first
     |(go_at_call 42;refine(n0.out _ hT2.drew).mono ?_;rintro e w1 ⟨rfl,hb1⟩;have hc1:=jF hb1;have z1:=hc1.size)
     |(go_at_call 42;refine(n1.out _ (hT2.all hc1)).mono ?_;rintro e w2 ⟨rfl,hb2⟩;have hc2:=bt hc1 hb2;have z2:=hc2.size))
   have k3:=ae hc2 k2;have hbw:=bt hb0 hc2;cases on with
   |true=>
    go_wp2_with (at_builtin;refine bD rfl (.tmp 27) (.tmp 29) rfl w2 w.heap.size ws.length c3 A3 (strs ws) u2 rfl rfl (own_below hown hbw) (by omega) (by omega) ?_;intro A4 c4 w4 fD hg4)
    have Dp:=hN0.next (us:=[u2]) hbw fD hg4;go_roundw
    case rel=>exact⟨k+1,by omega,by simp,by rw[HS.out,HP.out];rw[U2.out,U1.out] at Dp;simpa using Dp.s⟩
    case measure=>simp[intOf];omega
   |false=>
    go_wp2_with (at_builtin;refine bD rfl (.tmp 27) (.tmp 29) rfl w2 w.heap.size ws.length c3 A3 (strs ws) u3 rfl rfl (own_below hown hbw) (by omega) (by omega) ?_;intro A4 c4 w4 fD hg4)
    have Dp:=hN0.next (us:=[u3]) hbw fD hg4;go_roundw
    case rel=>exact⟨k+1,by omega,by simp,by rw[HS.out,HP.out];rw[U3.out,U2.out,U1.out] at Dp;simpa using Dp.s⟩
    case measure=>simp[intOf];omega
  obtain rfl:k=l.length:=by omega
  have HL:Hid ((l.take l.length).map jb=l.map jb):=by show _=_;rw[akr]
  rw[<-HL.out] at hlen hTL;generalize hws:(l.take l.length).map jb=ws at*
  have hb3:=hp.below hbl;have hs3:=kQ hown;have hw3:ws.length<=1000000000000:=by omega
  clear hws hlk;go_wp2_with (go_at_call 41;((with_reducible refine(BZ _ Bd g fc txt eX A3 c3 ws hb3 hs3 hlen hw3).mono ?_);rintro e w4 ⟨rfl,Oz,hk4,hb4⟩))
  go_end0
  rw[<-HL.out];exact⟨rfl,Oz,(KP.below hbl).trans hk4,(hbl.mono hBd).trans hb4⟩
end
end Go.Proofs.YtkijckccfookeaaGreatDoor
