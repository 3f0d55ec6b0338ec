/- Lemmas. -/
import Derived.Test.YtkijckccfookeaaGreatDoorU07
set_option linter.unusedVariables false
set_option linter.unusedSimpArgs false
set_option maxRecDepth 100000
set_option maxHeartbeats 32000000
namespace Go.Proofs.YtkijckccfookeaaGreatDoor
section
open Go.RowKit
abbrev mQ:TypeId:=149
abbrev aQ:TypeId:=3
def mkV (A:Option Addr)(n c a:Nat)(fs:Nat->Value)(lp:Int):Array Value:= #[.slice A n c,.int .i64 a,fs 0,fs 1,fs 2,fs 3,fs 4,fs 5,fs 6,fs 7,fs 8,.int .i64 lp]
def Mk (w:World)(m:Nat)(fs:Nat->Value)(lp:Int):Prop:=∃A n c a zs,Bk w m mQ (mkV A n c a fs lp)/\a<=n/\n<=1000000000/\Rd w m A n 1 (aH zs)/\∀z∈zs,I64 z
abbrev Mv (m:Nat)(w w':World):Prop:=w.grownBy w' (some m)
theorem Ug {a b:World}{m Bd:Nat}(h:a.grownBy b (some m))(hm:Bd<=m)(hB:Bd<=a.heap.size):Below Bd a b:=⟨h.os,h.tape,h.output,h.size,fun i hi=>h.block i (by omega) (fun e=>by injection e with e;omega)⟩
theorem Mk.lt {w:World}{m:Nat}{fs:Nat->Value}{lp:Int}(h:Mk w m fs lp):m<w.heap.size:=by obtain⟨A,n,c,a,zs,h1,-⟩:=h;exact h1.lt
theorem Mk.cells {w:World}{m:Nat}{fs:Nat->Value}{lp:Int}(h:Mk w m fs lp):(∀i,i<9->w.cell? ⟨m,i+2,none⟩=some (fs i))/\w.cell? ⟨m,11,none⟩=some (.int .i64 lp):=by
 obtain⟨A,n,c,a,zs,h1,-⟩:=h;refine⟨fun i hi=> ?_,h1.cell 11⟩;rw[h1.cell (i+2)];have:i=0\/i=1\/i=2\/i=3\/i=4\/i=5\/i=6\/i=7\/i=8:=by omega
 rcases this with rfl|rfl|rfl|rfl|rfl|rfl|rfl|rfl|rfl<;>rfl
theorem Mk.frozen {w:World}{m:Nat}{fs:Nat->Value}{lp:Int}(h:Mk w m fs lp)(i:Nat):w.frozen? ⟨m,i,none⟩=false:=by obtain⟨A,n,c,a,zs,h1,-⟩:=h;exact h1.frozen i
theorem Mk.grown {w w':World}{m:Nat}{fs:Nat->Value}{lp:Int}(h:Mk w m fs lp){row:Option Nat}(hg:w.grownBy w' row)(hr:∀g,row=some g->m<g):Mk w' m fs lp:=by have hm:=h.lt;obtain⟨A,n,c,a,zs,h1,h2,h3,h4,h5⟩:=h;exact⟨A,n,c,a,zs,(hg.block m hm (fun e=>by have:=hr m e.symm;omega)).trans h1,h2,h3,h4.grown hg (by omega) (fun g e=>by have:=hr g e;omega),h5⟩
theorem Mk.below {w w':World}{m:Nat}{fs:Nat->Value}{lp:Int}(h:Mk w m fs lp)(hb:Below w.heap.size w w'):Mk w' m fs lp:=h.grown (row:=none) (aB hb none) (fun g e=>by cases e)
theorem Mk.set {w:World}{m:Nat}{fs fs':Nat->Value}{lp lp':Int}(h:Mk w m fs lp)(j:Nat)(u:Value)(hj:∀A n c a,(mkV A n c a fs lp).setIfInBounds j u=mkV A n c a fs' lp'):Mk (w.setCell ⟨m,j,none⟩ u) m fs' lp':=by obtain⟨A,n,c,a,zs,h1,h2,h3,h4,h5⟩:=h;exact⟨A,n,c,a,zs,by have:=h1.set j u;rwa [hj] at this,h2,h3,h4.setCell (by simp) u,h5⟩
theorem XD {w w':World}{base:Nat}{e:TypeId}{size:Nat}{v:Value}{n:Nat}{xs:List Value}(h:w.ownsRow base e size v n xs){m:Nat}(hg:w.grownBy w' (some m))(hm:m<base):w'.ownsRow base e size v n xs:=
 h.kept (row:=some m) hg (by
  cases hb:v.ownBlock with
  |none=>exact .inl rfl
  |some g=>exact .inr (fun e=>by injection e with e;have:=(h.lt g hb).1;omega))
theorem yJ (w:World)(base:Nat)(e:TypeId)(size n:Nat)(cur:Array Value)(hb:base<=w.heap.size)(hn:cur.size=n*size)(hm:n<=1000000):(w.alloc (.cells cur e)).ownsRow base e size (.slice (some ⟨w.heap.size,0,none⟩) n n) n cur.toList:=⟨by simpa using hn,.inr ⟨w.heap.size,n,cur,rfl,hb,heap_alloc_new w _,af _,by unfold maxLen;omega,hn,by rw[anN];simpa using Nat.le_of_eq hn⟩⟩
def NI (base:Nat)(w:World):Bs:=fun b=>base<=b/\∃cs,Bk w b aQ cs
def Nw (base:Nat)(w:World):Bs:=fun b=>base<=b/\∃cs t,Bk w b t cs/\lK t=true
theorem NI.base {base base':Nat}{w:World}(hb:base'<=base):∀b,NI base w b->NI base' w b:=fun b ⟨h,k⟩=>⟨by omega,k⟩
theorem Nw.base {base base':Nat}{w:World}(hb:base'<=base):∀b,Nw base w b->Nw base' w b:=fun b ⟨h,k⟩=>⟨by omega,k⟩
theorem NI.row {base:Nat}{w w':World}{v:Value}{bs:Nat}{e:TypeId}{size n:Nat}{xs:List Value}(ho:w.ownsRow bs e size v n xs)(he:e≠aQ)(hg:w.grownBy w' v.ownBlock):Same (NI base w) w w'/\∀b,NI base w b->NI base w' b:=by
 have key:∀b,NI base w b->w'.heap[b]? =w.heap[b]? :=fun b ⟨h,cs,k⟩=>hg.block b k.lt (fun e'=>by
  obtain⟨cur,hb⟩:=iG ho b e'.symm;exact he (bU hb k).1)
 exact⟨key,fun b hb=>by obtain⟨h,cs,k⟩:=hb;exact⟨h,cs,(key b ⟨h,cs,k⟩).trans k⟩⟩
theorem Sl.moved {α:Type}{R:Rel α}(ok:R.Ok){size:Nat}{w w':World}{S S':Bs}{A:Option Addr}{xs:List α}(h:Sl R size w S A xs)(k:Same S w w'/\∀b,S b->S' b):Sl R size w' S' A xs:=(h.keep ok k.1).mono ok k.2
theorem Fl.moved {α:Type}{R:Rel α}(ok:R.Ok){size:Nat}{w w':World}{S S':Bs}{cs:List Value}{xs:List α}(h:Fl R size w S cs xs)(k:Same S w w'/\∀b,S b->S' b):Fl R size w' S' cs xs:=(h.keep ok k.1).mono ok k.2
theorem Sl.rdM {α:Type}{R:Rel α}{size:Nat}{w:World}{S:Bs}{A:Option Addr}{xs:List α}(h:Sl R size w S A xs)(hS:∀b,S b->b<w.heap.size):∃cells,Fl R size w S cells xs/\Rd w w.heap.size A xs.length size cells:=by obtain⟨cells,h1,h2⟩:=h;refine⟨cells,h1,h1.1,fun h0=> ?_⟩;obtain⟨b,o,e,hb,hc⟩:=h2 h0;exact⟨b,o,e,hS b hb,hc⟩
theorem NI.lt {base:Nat}{w:World}:∀b,NI base w b->b<w.heap.size:=fun b ⟨_,_,k⟩=>k.lt
theorem Nw.lt {base:Nat}{w:World}:∀b,Nw base w b->b<w.heap.size:=fun b ⟨_,_,_,k,_⟩=>k.lt
theorem jP (w:World)(S:Bs)(l:List Int)(h:∀n∈l,I64 n):Fl akL 1 w S (aH l) l:=
 ⟨by simp[aH],fun k x hx=>⟨[.int .i64 x],⟨rfl,h x (anC hx)⟩,rfl,fun j u hu=>by
  cases j with
  |zero=>simp at hu;subst hu;simp[aH,cI,hx]
  |succ j=>simp at hu⟩⟩
theorem uh {α:Type}{R:Rel α}{size:Nat}(w:World)(S:Bs)(f:α->List Value)(l:List α)(hs:∀x∈l,(f x).length=size)(hR:∀x∈l,R w S (f x) x):Fl R size w S (l.flatMap f) l:=by
 induction l with
 |nil=>exact Fl.nil
 |cons a r ih=>rw[anM];exact(Fl.one (hR a (by simp)) (hs a (by simp))).append (ih (fun x hx=>hs x (by simp[hx])) (fun x hx=>hR x (by simp[hx])))
def SQ (i:Ins):List Value:=[.int .i64 i.op,.int .i64 i.a]
def kD (p:List Ins):List Value:=p.flatMap SQ
theorem Jj (w:World)(S:Bs)(p:List Ins)(h:∀i∈p,I64 i.op/\I64 i.a):Fl akZ 2 w S (kD p) p:=uh w S SQ p (fun _ _=>rfl) (fun x hx=>⟨rfl,h x hx⟩)
theorem VV (a b:List Ins):kD (a++b)=kD a++kD b:=by simp[kD]
theorem Wp (p:List Ins):∀u∈kD p,u.oneCell'=true:=by intro u hu;simp only[kD,an8,SQ,anG,an4,or_false] at hu;obtain⟨p,_,rfl|rfl⟩:=hu<;>rfl
theorem XX (p:List Ins):(kD p).length=p.length*2:=by
 induction p with
 |nil=>rfl
 |cons a r ih=>simp only[kD,anM,la,aT,SQ,ln] at ih ⊢;omega
def ptM (p:Pt):List Value:=[.int .i64 p.x,.int .i64 p.y,.bool p.on]
def Bq (p:List Pt):List Value:=p.flatMap ptM
theorem ac8 (w:World)(S:Bs)(p:List Pt)(h:∀i∈p,I64 i.x/\I64 i.y):Fl PtR 3 w S (Bq p) p:=uh w S ptM p (fun _ _=>rfl) (fun x hx=>⟨rfl,h x hx⟩)
theorem Zj (a b:List Pt):Bq (a++b)=Bq a++Bq b:=by simp[Bq]
structure alB (gl:Gl)(gs:List akN):Prop where
 at':∀(i:Nat) (g:akN),gs[i]? =some g->gl.lookup g.name=some i
 names:∀g∈gs,nameB g.name=true
theorem zu {gl:Gl}{gs:List akN}(h:alB gl gs){n:Int}(hn:In gs.length n):gl.lookup (cO gs n)=some n.toNat/\nameB (cO gs n)=true:=by
 obtain⟨h1,h2⟩:=hn;have hlt:n.toNat<gs.length:=by omega
 have e:gs[n.toNat]? =some gs[n.toNat]:=anw hlt;have e2:cO gs n=gs[n.toNat].name:=by unfold cO;rw[if_neg (by omega),e]
 rw[e2];exact⟨h.at' _ _ e,h.names _ (List.getElem_mem hlt)⟩
theorem CG {gl:Gl}{gs:List akN}(h:alB gl gs){n:Int}(hn:In gs.length n)(e:Int):jM gl e (cO gs n)=e/\fP gl (cO gs n)=n:=by obtain⟨h1,-⟩:=zu h hn;obtain⟨h3,h4⟩:=hn;rw[jM,fP,h1];refine⟨by simp,?_⟩;simp;omega
theorem abQ {gl:Gl}{gs:List akN}(h:alB gl gs)(l:List Int)(hl:∀n∈l,In gs.length n)(e:Int):uf gl e (l.map (cO gs))=e/\(l.map (cO gs)).map (fP gl)=l:=by
 induction l generalizing e with
 |nil=>exact⟨rfl,rfl⟩
 |cons n r ih=>
  obtain⟨a1,a2⟩:=CG h (hl n (by simp)) e;obtain⟨b1,b2⟩:=ih (fun m hm=>hl m (by simp[hm])) e;refine⟨?_,?_⟩
  ·have:uf gl e ((n::r).map (cO gs))=uf gl (jM gl e (cO gs n)) (r.map (cO gs)):=rfl;rw[this,a1,b1]
  rw[anE,anE,a2,b2]
theorem Qb {gl:Gl}{cls:List (B×List Int)}{s:B}{n:Nat}(hs:nameB s=true)(hl:gl.lookup s=some n):mP gl cls s= .ok [(n:Int)]:=by
 unfold mP;split
 ·exact absurd rfl ((XT hs 64 (by simp)).2.2.2.2.1)
 rw[hl]
theorem Qr {gl:Gl}{gs:List akN}(h:alB gl gs)(cls:List (B×List Int))(s:List Int)(hs:∀n∈s,In gs.length n)(acc:List Int)(hl:acc.length+s.length<=1000):nR gl cls acc (s.map (cO gs))= .ok (acc++s):=by
 induction s generalizing acc with
 |nil=>simp[nR]
 |cons n r ih=>
  obtain⟨h1,h2⟩:=zu h (hs n (by simp));have h3:=(hs n (by simp)).1;rw[anE,nR,Qb h2 h1];have e:((n.toNat:Nat):Int)=n:=by omega
  simp only[e];rw[if_neg (by simp only[la,aT,ln] at hl ⊢;omega),ih (fun m hm=>hs m (by simp[hm])) _ (by simp only[la,aT,ln] at hl ⊢;omega)];simp
theorem wH {gl:Gl}{gs:List akN}(h:alB gl gs)(cls:List (B×List Int))(l:List (List Int))(hl:∀s∈l,(∀n∈s,In gs.length n)/\s.length<=1000):kW gl cls (l.map (fun s=>s.map (cO gs)))= .ok l:=by
 induction l with
 |nil=>rfl
 |cons s r ih=>obtain⟨h1,h2⟩:=hl s (by simp);rw[anE,kW,Qr h cls s h1 [] (by simpa using h2),ih (fun x hx=>hl x (by simp[hx]))];simp
theorem Zc (names:List B)(hn:∀w∈names,w≠[91]/\w≠[93])(row:List B)(told:List (List B))(rest:List B):eQ true row told (names++[93]::rest)=eQ false [] (told++[row++names]) rest:=by
 induction names generalizing row with
 |nil=>simp[eQ]
 |cons w r ih=>obtain⟨h1,h2⟩:=hn w (by simp);rw[anL,eQ,if_neg h1,if_neg h2,if_pos rfl,ih (fun x hx=>hn x (by simp[hx]))];simp
theorem IR {s:B}(h:nameB s=true):s≠[91]/\s≠[93]/\s≠[47]/\s≠[62]:=by refine⟨?_,?_,?_,?_⟩<;>(rintro rfl;revert h;decide)
theorem WT {gl:Gl}{gs:List akN}(h:alB gl gs)(s:List Int)(hs:∀n∈s,In gs.length n)(told:List (List B))(rest:List B):eQ false [] told (setW gs s++rest)=eQ false [] (told++[s.map (cO gs)]) rest:=by
 have hb:∀n∈s,cO gs n≠[91]/\cO gs n≠[93]:=fun n hn=>by
  have:=IR (zu h (hs n hn)).2;exact⟨this.1,this.2.1⟩
 by_cases h1:s.length=1
 ·match s,h1 with
  |[n],_=>obtain⟨b1,b2⟩:=hb n (by simp);show eQ false [] told (cO gs n::rest)=_;rw[eQ,if_neg b1,if_neg b2];simp
 have e:setW gs s=[91]::s.map (cO gs)++[[93]]:=by
  unfold setW;split
  ·simp at h1
  rfl
 rw[e];simp only[anL,anH,an6];rw[eQ,if_pos rfl];simp only[Bool.false_eq_true,if_false];rw[Zc _ (fun w hw=>by
  rw[anZ] at hw;obtain⟨n,hn,rfl⟩:=hw;exact hb n hn)]
 simp
theorem YI {gl:Gl}{gs:List akN}(h:alB gl gs)(l:List (List Int))(hl:∀s∈l,∀n∈s,In gs.length n):eP (di gs l)=some (l.map (fun s=>s.map (cO gs))):=by
 suffices key:∀told,eQ false [] told (di gs l)=some (told++l.map (fun s=>s.map (cO gs))) by simpa [eP] using key []
 induction l with
 |nil=>intro told;simp[di,eQ]
 |cons s r ih=>
  intro told;have e:di gs (s::r)=setW gs s++di gs r:=by simp[di]
  rw[e,WT h s (hl s (by simp)),ih (fun x hx=>hl x (by simp[hx]))];simp
theorem zt {gl:Gl}{gs:List akN}(h:alB gl gs)(l:List (List Int))(hl:∀s∈l,∀n∈s,In gs.length n):∀w∈di gs l,w≠[47]/\w≠[62]/\bV w=true:=by
 intro w hw;simp only[di,an8] at hw;obtain⟨s,hs,hw⟩:=hw;have hn:∀n∈s,cO gs n≠[47]/\cO gs n≠[62]/\bV (cO gs n)=true:=fun n hn=>by
  have h1:=(zu h (hl s hs n hn)).2;have:=IR h1;exact⟨this.2.2.1,this.2.2.2,qI h1⟩
 have key:w∈[91]::s.map (cO gs)++[[93]]\/w∈s.map (cO gs):=by
  unfold setW at hw;split at hw
  ·exact .inr (by simpa using hw)
  exact .inl hw
 have:w=[91]\/w=[93]\/∃n∈s,cO gs n=w:=by
  rcases key with hk|hk
  ·simp only[anL,anG,anz,anZ,an4,or_false] at hk;rcases hk with hk|⟨n,hn,e⟩|hk
   ·exact .inl hk
   ·exact .inr (.inr ⟨n,hn,e⟩)
   exact .inr (.inl hk)
  rw[anZ] at hk;exact .inr (.inr hk)
 rcases this with rfl|rfl|⟨n,hns,rfl⟩
 ·decide
 ·decide
 exact hn n hns
theorem xC (ws:List B)(hw:∀w∈ws,w≠[47]/\w≠[62])(n:Nat)(cur:List B)(told:List (List B))(rest:List B):iQ n cur told (ws++rest)=iQ n (cur++ws) told rest:=by
 induction ws generalizing cur with
 |nil=>simp
 |cons w r ih=>rw[anL,iQ,if_pos (hw w (by simp)),ih (fun x hx=>hw x (by simp[hx]))];simp
theorem Y0 (a b c d:List B)(ha:∀w∈a,w≠[47]/\w≠[62])(hb:∀w∈b,w≠[47]/\w≠[62])(hc:∀w∈c,w≠[47]/\w≠[62])(hd:∀w∈d,w≠[47]/\w≠[62]):
  pM (a++[47]::b++[47]::c++[62]::d)=some [a,b,c,d]:=by
 have e:a++[47]::b++[47]::c++[62]::d=a++([47]::(b++([47]::(c++([62]::(d++[])))))):=by simp
 rw[e,pM,xC a ha,iQ,if_neg (by simp),if_pos (by simp),xC b hb,iQ,if_neg (by simp),if_pos (by simp),xC c hc,iQ,if_neg (by simp),if_pos (by simp),xC d hd,iQ];simp
theorem Td (n:Int)(s:List Int)(h:∀x∈s,n<x):pG n s=n::s:=by
 cases s with
 |nil=>rfl
 |cons x r=>rw[pG,if_pos (h x (by simp))]
theorem OL (s:List Int)(h:s.Pairwise (· < ·)):setOf s=s:=by
 induction s with
 |nil=>rfl
 |cons n r ih=>obtain⟨h1,h2⟩:=List.pairwise_cons.1 h;have e:setOf (n::r)=pG n (setOf r):=rfl;rw[e,ih h2,Td n r h1]
theorem Si {n:Nat}{s:List Int}(h:Ox n s):s.length<=n:=by
 obtain⟨h1,h2⟩:=h
 suffices key:∀(s:List Int) (lo:Int),s.Pairwise (· < ·)->(∀x∈s,lo<=x/\x<n)->(s.length:Int)<=max 0 (n - lo) by have:=key s 0 h1 (fun x hx=>h2 x hx);omega
 intro s;induction s with
 |nil=>intro lo _ _;simp;omega
 |cons x r ih=>intro lo hp hr;obtain⟨h3,h4⟩:=List.pairwise_cons.1 hp;have h5:=hr x (by simp);have:=ih (x+1) h4 (fun y hy=>⟨by have:=h3 y hy;omega,(hr y (by simp[hy])).2⟩);simp only[aT];omega
theorem ER {s:List Int}(h:s.Pairwise (· < ·)):s.Nodup:=h.imp (fun hab e=>by omega)
theorem acg (s out:List Int)(hn:s.Nodup)(hl:out.length=s.length):s.map (fun g=>out.getD (s.idxOf g) 0)=out:=by
 apply List.ext_getElem (by simp[hl]);intro i h1 h2;rw[List.getElem_map];have h3:i<s.length:=by simpa using h1
 rw[List.Nodup.idxOf_getElem hn i h3];simp[List.getD,h2]
theorem Cc (s out:List Int)(hs:s.Pairwise (· < ·))(hl:out.length=s.length):fE s out= .ok out:=by rw[fE,if_neg (by simpa using ER hs),if_neg (by simpa using hl),OL s hs,acg s out (ER hs) hl]
theorem JO (c:Call)(h:N9 c.at'/\N9 c.lookup)(e:Int):mg e (ah c.at'++58::ah c.lookup)=e/\kZ (ah c.at'++58::ah c.lookup)=c/\(ah c.at'++58::ah c.lookup).count 58=1/\bV (ah c.at'++58::ah c.lookup)=true:=by
 obtain⟨h1,h2⟩:=h;have n1:∀d∈ah c.at',d≠58:=fun d hd=>(iV (qH _ d hd)).2.1
 have n2:∀d∈ah c.lookup,d≠58:=fun d hd=>(iV (qH _ d hd)).2.1
 obtain⟨c1,c2⟩:=LW (b:=ah c.lookup) n1;refine⟨?_,?_,?_,?_⟩
 ·rw[mg,c1,c2,gU _ h1,gU _ h2]
 ·rw[kZ,c1,c2,(eG _ h1).2,(eG _ h2).2]
 ·rw[List.count_append,List.count_cons,count_none n1,count_none n2];simp
 simp only[bV,anT,Bool.not_eq_true',List.isEmpty_eq_false_iff,an5,anz,anG];refine⟨by simp,fun d hd=> ?_⟩;rcases hd with hd|rfl|hd
 ·exact(iV (qH _ d hd)).1
 ·decide
 exact(iV (qH _ d hd)).1
theorem SL (l:List Call)(h:∀c∈l,N9 c.at'/\N9 c.lookup)(e:Int):(l.map (fun c=>ah c.at'++58::ah c.lookup)).foldl mg e=e/\(l.map (fun c=>ah c.at'++58::ah c.lookup)).map kZ=l/\
  yt (l.map (fun c=>ah c.at'++58::ah c.lookup))=true/\∀w∈l.map (fun c=>ah c.at'++58::ah c.lookup),bV w=true:=by
 induction l generalizing e with
 |nil=>exact⟨rfl,rfl,rfl,by simp⟩
 |cons c r ih=>
  obtain⟨a1,a2,a3,a4⟩:=JO c (h c (by simp)) e;obtain⟨b1,b2,b3,b4⟩:=ih (fun d hd=>h d (by simp[hd])) e;refine⟨?_,?_,?_,?_⟩
  ·rw[anE,anW,a1,b1]
  ·rw[anE,anE,a2,b2]
  ·unfold yt at b3 ⊢;rw[anE,List.all_cons,b3,a3];rfl
  intro w hw;rw[anE,anG] at hw;rcases hw with rfl|hw
  ·exact a4
  exact b4 w hw
theorem afB (w:World)(b:UInt8):(convert 68 9 (.slice (some ⟨w.heap.size,0,none⟩) 1 1)).run Tryz.prog (w.alloc (.cells #[.int .u8 b.toNat] 5))= .ok (.string ⟨#[b]⟩) (w.alloc (.cells #[.int .u8 b.toNat] 5)):=
 run_convert_bytes_back (w.alloc (.cells #[.int .u8 b.toNat] 5)) 68 9 5 ⟨w.heap.size,0,none⟩ 1 [b] Tryz.underlying68 Tryz.underlying5 Tryz.underlying9 (fun j hj=>by
  obtain rfl:j=0:=by simpa using hj
  rw[addr_add];exact(Bk.new w 5 #[.int .u8 b.toNat]).cell 0)
theorem uj (a b:B):(ByteArray.mk a.toArray)++⟨b.toArray⟩=⟨(a++b).toArray⟩:=by apply ByteArray.ext;rw[ByteArray.data_append];apply Array.ext';simp
def nU (n:Nat):UInt8:=UInt8.ofNat (48+n % 10)
theorem ab5 (n:Nat):(nU n).toNat=48+n % 10:=by rw[nU,UInt8.toNat_ofNat'];omega
def kF (u:Nat):B:=if _h:u<10 then [nU u] else kF (u / 10)++[nU u]
termination_by u
decreasing_by omega
theorem LJ (w:World)(n:Int)(u:Nat)(h:n=48+(u:Int) % 10):(convert 68 9 (.slice (some ⟨w.heap.size,0,none⟩) 1 1)).run Tryz.prog (w.alloc (.cells #[.int .u8 n] 5))= .ok (.string ⟨#[nU u]⟩) (w.alloc (.cells #[.int .u8 n] 5)):=by
 have:=afB w (nU u);rw[ab5] at this;rw[h];have e:(48+(u:Int) % 10)=((48+u % 10:Nat):Int):=by omega
 rw[e];exact this
def qB (q:Nat):B:=if q=0 then [] else kF q
theorem ZC (q:Nat)(h:0<q):qB q=qB (q / 10)++[nU q]:=by
 rw[qB,if_neg (by omega),kF];split
 ·rw[qB,if_pos (by omega)];rfl
 rw[qB,if_neg (by omega)]
theorem SY (U:Nat):kF U=qB (U / 10)++[nU U]:=by
 rw[kF];split
 ·rw[qB,if_pos (by omega)];rfl
 rw[qB,if_neg (by omega)]
theorem aau (k:Nat):∀u,u<10 ^ (k+1)->(kF u).length<=k+1:=by
 induction k with
 |zero=>intro u hu;rw[kF,dif_pos (by simpa using hu)];simp
 |succ k ih=>
  intro u hu;rw[kF];split
  ·simp
  have:=ih (u / 10) (by rw[Np] at hu;omega);rw[la];simp;omega
theorem NE (u:Nat):kF u=Lib.decDigits u:=by
 induction u using Nat.strongRecOn with
 |_ u ih=>
  rw[kF,Lib.decDigits];split
  ·rename_i h;rw[nU,Nat.mod_eq_of_lt h]
  rw[ih (u / 10) (by omega)];rfl
def ai (n:Int):B:=ah n++[32]
def ww (b:Bool):B:=if b then [49,32] else [48,32]
def rowB (l:List Int):B:=ai l.length++l.flatMap ai
def lh (l:List (List Int)):B:=ai l.length++l.flatMap rowB
def qE (i:Ins):B:=ai i.op++ai i.a
def fG (l:List Ins):B:=ai l.length++l.flatMap qE
def rY (s:B):B:=ai s.length++(s++[32])
def qV (p:Pt):B:=ai p.x++(ai p.y++ww p.on)
def aaQ (l:List Pt):B:=ai l.length++l.flatMap qV
def jv (p:Part):B:=ai p.akY++(ai p.x++ai p.y)
def OZ (l:List Part):B:=ai l.length++l.flatMap jv
def jw (a:ak7):B:=ai a.kind++(ai a.cls++(ai a.x++ai a.y))
def Pq (l:List ak7):B:=ai l.length++l.flatMap jw
def lU (d:Delta):B:=ai d.region++(ai d.point++(ai d.x++ai d.y))
def UY (l:List Delta):B:=ai l.length++l.flatMap lU
def eH (g:akN):B:=rY g.name++(ai g.advance++(ww g.mark++(aaQ g.points++(rowB g.ends++(OZ g.parts++(Pq g.anchors++(UY g.deltas++fG g.hint)))))))
def JC (l:List akN):B:=ai l.length++l.flatMap eH
def lQ (c:Chr):B:=ai c.rune++ai c.akY
def U7 (l:List Chr):B:=ai l.length++l.flatMap lQ
def jr (c:Call):B:=ai c.at'++ai c.lookup
def Ij (l:List Call):B:=ai l.length++l.flatMap jr
def ja (r:als):B:=lh r.back++(lh r.in'++(lh r.ahead++(rowB r.out++(Ij r.calls++ai r.x))))
def OW (l:List als):B:=ai l.length++l.flatMap ja
def iq (l:Lookup):B:=ai l.kind++(ww l.alr++OW l.rules)
def Oa (l:List Lookup):B:=ai l.length++l.flatMap iq
def jo (x:alo):B:=rY x.name++rowB x.akK
def MI (l:List alo):B:=ai l.length++l.flatMap jo
def jm (a:alG):B:=rY a.name++(ai a.min'++(ai a.alI++ai a.max'))
def Tm (l:List alG):B:=ai l.length++l.flatMap jm
def jY (t:alv):B:=ai t.start++(ai t.peak++ai t.stop)
def Bv (l:List alv):B:=ai l.length++l.flatMap jY
def lS (r:Region):B:=Bv r.ak1
def TN (l:List Region):B:=ai l.length++l.flatMap lS
def Nl (l:List (List Ins)):B:=ai l.length++l.flatMap fG
def mZ (f:Fnt):B:=ai f.unit++(JC f.akJ++(U7 f.chars++(Oa f.akK++(MI f.features++(Tm f.akP++(TN f.regions++(Nl f.funcs++rowB f.cvt)))))))
def PF {α:Type}(c:α->B):Prop:=∀x y r s,c x++r=c y++s->x=y/\r=s
theorem aaV (s:B)(c:UInt8)(h:s.contains c=false):Lib.indexByte s c= -1:=by
 induction s with
 |nil=>rfl
 |cons d r ih=>
  rw[List.contains_cons,Bool.or_eq_false_iff] at h;have h1:(d==c)=false:=by have:=h.1;simp only[beq_eq_false_iff_ne,ne_eq] at this ⊢;exact fun e=>this e.symm
  rw[Lib.indexByte,h1,ih h.2];rfl
theorem NF (s:B)(c:UInt8)(h:s.contains c=true):Lib.indexByte s c=((dh c s).length:Int)/\s=dh c s++c::dM c s:=by
 induction s with
 |nil=>simp at h
 |cons d r ih=>
  by_cases hd:d=c
  ·subst hd;simp[Lib.indexByte,dh,dM]
  have h1:(d==c)=false:=by simpa using hd
  have h2:r.contains c=true:=by
   rw[List.contains_cons,Bool.or_eq_true] at h;rcases h with h|h
   ·exact absurd (beq_iff_eq.1 h).symm hd
   exact h
  obtain⟨e1,e2⟩:=ih h2;have p1:dh c (d::r)=d::dh c r:=by show List.takeWhile (· !=c) (d::r)=_;rw[List.takeWhile_cons_of_pos (p:=fun x=>x !=c) (by simpa using hd)];rfl
  have p2:dM c (d::r)=dM c r:=by show(List.dropWhile (· !=c) (d::r)).drop 1=_;rw[List.dropWhile_cons_of_pos (p:=fun x=>x !=c) (by simpa using hd)];rfl
  have hne:(Lib.indexByte r c== -1)=false:=by rw[e1];simp
  rw[Lib.indexByte,h1,p1,p2,hne,e1];refine⟨by simp,?_⟩;rw[anL,<-e2]
theorem afv (a b:B)(c:UInt8):(ByteArray.mk (a++c::b).toArray).extract 0 a.length=⟨a.toArray⟩:=by rw[jV];simp
theorem afT (a b:B)(c:UInt8):(ByteArray.mk (a++c::b).toArray).extract (a.length+1) (a++c::b).length=⟨b.toArray⟩:=by rw[jV,anA,List.drop_append,an3 (by omega),show a.length+1 - a.length=1 by omega];rfl
def hasB (c:UInt8)(s:B):Bool:=s.contains c
theorem aaJ (w:World)(s:B)(c:UInt8)(hs:s.length<=100000000):Calls Tryz.prog 183 #[.string ⟨s.toArray⟩,.string ⟨#[c]⟩] w fun e w'=>e= .returned (.tuple #[.string ⟨(dh c s).toArray⟩,.string ⟨(dM c s).toArray⟩,.bool (hasB c s)])/\∃n,w'=w.drewN n:=by
 cases hc:hasB c s with
 |false=>
  have hi:=hd0 (aaV s c hc);have hn:Hid (dh c s=s/\dM c s=[]):=by refine Xq (fun d hd e=> ?_);subst e;rw[<-Bool.not_eq_true,hasB] at hc;exact hc (List.contains_iff_mem.2 hd)
  clear hc;go_enter Tryz.func183,Tryz.ntmps183
  go_wp2_with (go_at_call 180;refine(Tryz.stringslite_Index_one ⟨s.toArray⟩ c _).mono ?_;rintro e w' ⟨rfl,rfl⟩;rw[show(Lib.indexByte (ByteArray.mk s.toArray).data.toList c)= -1 from hi.out])
  go_ret3
  rw[hn.out.1,hn.out.2];exact⟨rfl,0,rfl⟩
 |true=>
  obtain⟨h1,h2⟩:=NF s c hc;have hl:s.length=(dh c s).length+(dM c s).length+1:=by
   conv=>lhs;rw[h2]
   simp;omega
  have hx1:=afv (dh c s) (dM c s) c;have hx2:=afT (dh c s) (dM c s) c;rw[<-h2] at hx1 hx2;have hi:=hd0 h1;clear h1 h2 hc;generalize dh c s=a at*
  generalize dM c s=b at*
  have b0:(0:Int)<=(a.length:Int):=by omega
  have b1:(a.length:Int)<=(s.length:Int):=by omega
  have b2:(a.length:Int)+1<=(s.length:Int):=by omega
  have b3:(0:Int)<=(a.length:Int)+1:=by omega
  have b4:a.length+1<=s.length:=by omega
  clear hl;go_enter Tryz.func183,Tryz.ntmps183
  go_wp2_with (go_at_call 180;refine(Tryz.stringslite_Index_one ⟨s.toArray⟩ c _).mono ?_;rintro e w' ⟨rfl,rfl⟩;rw[show(Lib.indexByte (ByteArray.mk s.toArray).data.toList c)=(a.length:Int) from hi.out])
  go_quiet (fail)
  go_wp2
  go_ret3
  exact⟨rfl,_,rfl⟩
theorem Nk (w:World)(s:B)(c:UInt8)(hs:s.length<=100000000):Calls Tryz.prog 168 #[.string ⟨s.toArray⟩,.string ⟨#[c]⟩] w fun e w'=>e= .returned (.tuple #[.string ⟨(dh c s).toArray⟩,.string ⟨(dM c s).toArray⟩,.bool (hasB c s)])/\∃n,w'=w.drewN n:=by
 have hc:=hd0 (aaJ w s c hs);clear hs;go_enter Tryz.func168,Tryz.ntmps168
 go_wp2_with (go_at_call 183;refine hc.out.mono ?_;rintro e w' ⟨rfl,n,rfl⟩)
 go_ret3
 exact⟨rfl,n,rfl⟩
end
section
open Go.RowKit Go.Sort
theorem DF:(Tryz.prog.info? 9).map (fun i=>(i.zero,i.size,i.bytes))=some (some (.string ⟨#[]⟩),1,16):=by kernel_rfl
theorem yV {w:World}{base size n:Nat}{e:TypeId}{v:Value}{xs:List Value}(h:w.ownsRow base e size v n xs):∃A c,v= .slice A n c:=by obtain⟨A,c,h,-⟩:=Rd.alj h;exact⟨A,c,h⟩
theorem JP {ops:Array Oper}{rest:List Oper}{o:Oper}{a:Act}{Q:Exit->Act->World->Prop}(hgd:o.guard=none)(s x:Operand)
  (ho:o.op= .call {callee:= .builtin .append,args:= #[s,x],argTypes:= #[48,48]})
  (w1:World) (hsz:Nat) (hh:w1.heap.size=hsz) (base n c:Nat) (A:Option Addr) (xs:List Value) (u:B) (hs:a.eval s= .slice A n c) (hx:a.eval x= .slice (some ⟨hsz,0,none⟩) 1 1)
  (hown:w1.ownsRow base 9 1 (.slice A n c) n xs) (hn:n<=1000000000000) (hb:base<=w1.heap.size)
  (h:∀A' c' w',w'.ownsRow base 9 1 (.slice A' (n+1) c') (n+1) (xs++[.string ⟨u.toArray⟩])->w1.grownBy w' (Value.slice A n c).ownBlock->wpList Tryz.prog ops Q rest (a.put o.dst (.slice A' (n+1) c')) w'):
  wpList Tryz.prog ops Q (o::rest) a (w1.alloc (.cells #[.string ⟨u.toArray⟩] 9)):=by
 subst hh;obtain⟨i0,hi0,hz0,hz1,hz2⟩:=info_parts DF;refine fQ _ hgd s x 48 ho base 9 i0 _ 1 16 Tryz.underlying48 hi0 hz0 hz1 hz2 rfl (by decide) (.slice A n c) n xs hs (hown.alloc _) (w1.heap.size+1) (some ⟨w1.heap.size,0,none⟩) 1 1 [.string ⟨u.toArray⟩] hx (Rd.newAt _ _ rfl #[.string ⟨u.toArray⟩] 9 1 1 rfl) (by simp[Value.oneCell']) (by simp only[maxLen];omega) (by omega) (by simp;omega) ?_;intro v' w' ho' hg _;obtain⟨A',c',rfl⟩:=yV ho';refine h A' c' w' ho' ⟨hg.os,hg.tape,hg.output,nt (by simp) hg.size,fun i hi hne=> ?_⟩;exact(hg.block i (by simp;omega) hne).trans (Below.heap_alloc _ _ _ hi)
theorem bI {ops:Array Oper}{rest:List Oper}{o:Oper}{a:Act}{Q:Exit->Act->World->Prop}(hgd:o.guard=none)(s x:Operand)
  (ho:o.op= .call {callee:= .builtin .append,args:= #[s,x],argTypes:= #[48,48]})
  (w1:World) (base n c:Nat) (A:Option Addr) (xs:List Value) (u:B) (hs:a.eval s= .slice A n c) (hx:a.eval x= .slice (some ⟨w1.heap.size,0,none⟩) 1 1)
  (hown:w1.ownsRow base 9 1 (.slice A n c) n xs) (hn:n<=1000000000000) (hb:base<=w1.heap.size)
  (h:∀A' c' w',w'.ownsRow base 9 1 (.slice A' (n+1) c') (n+1) (xs++[.string ⟨u.toArray⟩])->w1.grownBy w' (Value.slice A n c).ownBlock->wpList Tryz.prog ops Q rest (a.put o.dst (.slice A' (n+1) c')) w'):
  wpList Tryz.prog ops Q (o::rest) a (w1.alloc (.cells #[.string ⟨u.toArray⟩] 9)):=
 JP hgd s x ho w1 w1.heap.size rfl base n c A xs u hs hx hown hn hb h
theorem fM {ops:Array Oper}{rest:List Oper}{o:Oper}{a:Act}{Q:Exit->Act->World->Prop}(hgd:o.guard=none)(s x:Operand)
  (ho:o.op= .call {callee:= .builtin .append,args:= #[s,x],argTypes:= #[48,48]})
  (w1:World) (base n c:Nat) (A:Option Addr) (xs:List Value) (Bd:Nat) (A2:Option Addr) (m c2:Nat) (ws:List B) (hs:a.eval s= .slice A n c) (hx:a.eval x= .slice A2 m c2)
  (hown:w1.ownsRow base 9 1 (.slice A n c) n xs) (hr:Rd w1 Bd A2 m 1 (strs ws)) (hn:n+m<=1000000000000) (hb:base<=w1.heap.size)
  (h:∀A' c' w',w'.ownsRow base 9 1 (.slice A' (n+m) c') (n+m) (xs++strs ws)->w1.grownBy w' (Value.slice A n c).ownBlock->wpList Tryz.prog ops Q rest (a.put o.dst (.slice A' (n+m) c')) w'):
  wpList Tryz.prog ops Q (o::rest) a w1:=by
 obtain⟨i0,hi0,hz0,hz1,hz2⟩:=info_parts DF;refine fQ _ hgd s x 48 ho base 9 i0 _ 1 16 Tryz.underlying48 hi0 hz0 hz1 hz2 rfl (by decide) (.slice A n c) n xs hs hown Bd A2 m c2 (strs ws) hx hr (EX ws) (by simp only[maxLen];omega) (by omega) hb ?_;intro v' w' ho' hg _;obtain⟨A',c',rfl⟩:=yV ho';exact h A' c' w' ho' hg
def fV (w:World)(ws:List B)(e:Ending)(w':World):Prop:=∃A c,e= .returned (.slice A ws.length c)/\w'.ownsRow w.heap.size 9 1 (.slice A ws.length c) ws.length (strs ws)/\Below w.heap.size w w'
def alA (w:World)(ws:List B)(v:Value)(wr:World):Prop:=∃A c,v= .slice A ws.length c/\wr.ownsRow w.heap.size 9 1 (.slice A ws.length c) ws.length (strs ws)/\Below w.heap.size w wr
theorem alA.nil (w:World):alA w [] (.slice none 0 0) w:=⟨none,0,rfl,⟨rfl,.inl ⟨rfl,rfl⟩⟩,ant _ _⟩
theorem alA.next {w wr w1 w2:World}{ws ws' us:List B}{A A':Option Addr}{c c' n:Nat}(hb:Below w.heap.size w wr)(hb1:Below wr.heap.size wr w1)(ho:wr.ownsRow w.heap.size 9 1 (.slice A ws.length c) ws.length (strs ws))
  (h2:w2.ownsRow w.heap.size 9 1 (.slice A' n c') n (strs ws++strs us)) (hg:w1.grownBy w2 (Value.slice A ws.length c).ownBlock) (hw:ws'=ws++us):alA w ws' (.slice A' n c') w2:=by
 have hn:n=ws'.length:=by have:=h2.1;rw[hw,la];simp[xe] at this;omega
 subst hn;refine⟨A',c',rfl,by rw[hw,zN];rw[hw] at h2;exact h2,?_⟩;exact(hb.trans (hb1.mono hb.size)).grown hg (nt hb.size hb1.size) (fun g e=>(ho.lt g e).1)
def alK (w:World)(ws:List B)(n:Nat)(A:Option Addr)(c:Nat)(wr:World):Prop:=n=ws.length/\wr.ownsRow w.heap.size 9 1 (.slice A n c) n (strs ws)/\Below w.heap.size w wr
theorem alK.next {w wr w1 w2:World}{ws us:List B}{A A':Option Addr}{c c' n m:Nat}(h:alK w ws n A c wr)(hb1:Below wr.heap.size wr w1)
  (h2:w2.ownsRow w.heap.size 9 1 (.slice A' m c') m (strs ws++strs us)) (hg:w1.grownBy w2 (Value.slice A n c).ownBlock):alK w (ws++us) m A' c' w2:=by
 obtain⟨rfl,ho,hb⟩:=h;obtain⟨A2,c2,e,r1,r2⟩:=alA.next hb hb1 ho h2 hg rfl;simp only[aon] at e;obtain⟨rfl,rfl,rfl⟩:=e;exact⟨rfl,r1,r2⟩
theorem alK.s {w wr:World}{ws:List B}{A:Option Addr}{c n:Nat}(h:alK w ws n A c wr):alA w ws (.slice A n c) wr:=by obtain⟨rfl,ho,hb⟩:=h;exact⟨A,c,rfl,ho,hb⟩
theorem gG {w:World}{base n m c size:Nat}{e:TypeId}{A:Option Addr}{xs:List Value}(h:w.ownsRow base e size (.slice A n c) n xs)(hn:n=m):Rd w w.heap.size A m size xs:=by subst hn;obtain⟨A',c',e,h'⟩:=Rd.alj h;simp only[aon,true_and] at e;rw[e.1];exact h'
theorem ae {w w':World}(hb:Below w.heap.size w w'){p:Addr}{v:Value}(h:w.cell? p=some v):w'.cell? p=some v:=(hb.cell (World.block_lt_of_cell? w p h)).trans h
theorem mW {α β:Type}(f:α->β)(l:List α)(k:Nat)(x:α)(h:l[k]? =some x):(l.take (k+1)).map f=(l.take k).map f++[f x]:=by obtain⟨hk,hg⟩:=anv.1 h;rw[anK hk,hg];simp
theorem bM {α β:Type}(f:α->List β)(l:List α)(k:Nat)(x:α)(h:l[k]? =some x):(l.take (k+1)).flatMap f=(l.take k).flatMap f++f x:=by obtain⟨hk,hg⟩:=anv.1 h;rw[anK hk,hg];simp
def PN (w:World)(g:Nat)(gs:List akN):Prop:=∃A c,w.cell? ⟨g,1,none⟩=some (.slice A gs.length c)/\Sl akQ 9 w (FT w) A gs
theorem PN.below {w w':World}{g:Nat}{gs:List akN}(h:PN w g gs)(hb:Below w.heap.size w w'):PN w' g gs:=by obtain⟨A,c,h1,h2⟩:=h;exact⟨A,c,(hb.cell (World.block_lt_of_cell? w _ h1)).trans h1,(KP.below hb).sl akQ.ok h2⟩
theorem aeM (gs:List akN)(n:Int)(h:n<0):cO gs n=63::ah n:=by rw[cO,if_pos h]
theorem aee (gs:List akN)(n:Int)(h:(gs.length:Int)<=n):cO gs n=63::ah n:=by
 rw[cO];split
 ·rfl
 rw[anU (by omega)]
theorem aev (gs:List akN)(n:Int)(x:akN)(h0:0<=n)(h:gs[n.toNat]? =some x):cO gs n=x.name:=by rw[cO,if_neg (by omega),h]
theorem qi (a b:B):(ByteArray.mk a.toArray)++⟨b.toArray⟩=⟨(a++b).toArray⟩:=by apply ByteArray.ext;simp
theorem Ak (w:World)(g:Nat)(gs:List akN)(n:Int)(hT:Tabs w)(hn:I64 n)(hP:PN w g gs)(hgl:gs.length<=1000000000000):
  Calls Tryz.prog 47 #[.pointer (some ⟨g,0,none⟩),.int .i64 n] w fun e w'=>e= .returned (.string ⟨(cO gs n).toArray⟩)/\Below w.heap.size w w':=by
 obtain⟨A,c,hc,hA⟩:=hP;by_cases h0:n<0
 ·have hnm:=hd0 (aeM gs n h0);have hnum:=hd0 (aX w n hT hn);have happ:(ByteArray.mk #[63])++⟨(ah n).toArray⟩=⟨(63::ah n).toArray⟩:=qi [63] (ah n);have hil:=uu hn;clear hn;go_enter Tryz.func47,Tryz.ntmps47
  go_wp2_with (go_at_call 42;refine hnum.out.mono ?_;rintro e w1 ⟨rfl,hb1⟩)
  go_ret
  exact⟨by rw[hnm.out];rfl,hb1⟩
 by_cases h1:(gs.length:Int)<=n
 ·have hnm:=hd0 (aee gs n h1);have hnum:=hd0 (aX w n hT hn);have happ:(ByteArray.mk #[63])++⟨(ah n).toArray⟩=⟨(63::ah n).toArray⟩:=qi [63] (ah n);have hil:=uu hn;clear hn;go_enter Tryz.func47,Tryz.ntmps47
  go_wp2_with (go_at_call 42;refine hnum.out.mono ?_;rintro e w1 ⟨rfl,hb1⟩)
  go_ret
  exact⟨by rw[hnm.out];rfl,hb1⟩
 obtain⟨m,rfl⟩:∃m:Nat,n=m:=⟨n.toNat,by omega⟩
 have hm:m<gs.length:=by omega
 obtain⟨b,o,x,A3,c3,A4,c4,A5,c5,A6,c6,A7,c7,A8,c8,rfl,-,hx,q0,-⟩:=hA.akY hm;have hnm:=hd0 (aev gs m x (by omega) (by simpa using hx.out));clear hn hx h1 h0;go_enter Tryz.func47,Tryz.ntmps47
 go_wp2;go_ret
 exact⟨by rw[hnm.out];rfl,ant _ _⟩
theorem wL (w:World)(A:Option Addr)(c:Nat)(l:List Int)(hT:Tabs w)(hA:Sl akL 1 w (FT w) A l)(hl:l.length<=100000000000):
  Calls Tryz.prog 44 #[.slice A l.length c] w (fV w (l.map ah)):=by
 go_enter Tryz.func44,Tryz.ntmps44
 go_wp2;go_loopw [3,8] (fun v i wr=>∃k:Nat,k<=l.length/\i= .int .i64 k/\alA w ((l.take k).map ah) v wr) (fun _ i _=>l.length - (intOf i).toNat)
 case atStart=>exact⟨0,nz _,rfl,by simpa using alA.nil w⟩
 case round=>
  obtain⟨k,hk,rfl,A3,c3,rfl,hown,hbl⟩:=hrel;have hlk:((l.take k).map ah).length=k:=by simp;omega
  by_cases hlt:k<l.length
  ·obtain⟨b,o,x,rfl,-,hx,q1,hr⟩:=((KP.below hbl).sl akL.ok hA).int hlt;have hn:=hd0 (aX wr x (hT.all hbl) hr);have HS:=hd0 (mW ah l k x hx.out);have HL:=hd0 hlk;generalize hws:(l.take k).map ah=ws at*
   have s0:=hbl.size;have hll:ws.length<=1000000000000:=by rw[HL.out];omega
   clear hx hr hws hlk;go_wp2_with (first
    |(go_at_call 42;refine hn.out.mono ?_;rintro e w1 ⟨rfl,hb1⟩;have s1:=hb1.size)
    |(at_builtin;refine bI rfl (.tmp 12) (.tmp 15) rfl w1 w.heap.size ws.length c3 A3 (strs ws) (ah x) rfl rfl (own_below hown hb1) hll (by omega) ?_;intro A4 c4 w2 ho2 hg2))
   go_roundw
   case rel=>exact⟨k+1,by omega,by simp,alA.next hbl hb1 hown (us:=[ah x]) ho2 hg2 HS.out⟩
   case measure=>simp[intOf];omega
  obtain rfl:k=l.length:=by omega
  have HL:Hid ((l.take l.length).map ah=l.map ah):=by show _=_;rw[anA]
  generalize hws:(l.take l.length).map ah=ws at*
  clear hws hlk;go_wp2;go_ret
  rw[<-HL.out];exact⟨A3,c3,rfl,hown,hbl⟩
theorem OX (w:World)(g:Nat)(gs:List akN)(A:Option Addr)(c:Nat)(l:List Int)(hT:Tabs w)(hP:PN w g gs)(hgl:gs.length<=1000000000000)(hA:Sl akL 1 w (FT w) A l)(hl:l.length<=100000000000):
  Calls Tryz.prog 147 #[.pointer (some ⟨g,0,none⟩),.slice A l.length c] w (fV w (l.map (cO gs))):=by
 go_enter Tryz.func147,Tryz.ntmps147
 go_wp2;go_loopw [5,10] (fun v i wr=>∃k:Nat,k<=l.length/\i= .int .i64 k/\alA w ((l.take k).map (cO gs)) v wr) (fun _ i _=>l.length - (intOf i).toNat)
 case atStart=>exact⟨0,nz _,rfl,by simpa using alA.nil w⟩
 case round=>
  obtain⟨k,hk,rfl,A3,c3,rfl,hown,hbl⟩:=hrel;have hlk:((l.take k).map (cO gs)).length=k:=by simp;omega
  by_cases hlt:k<l.length
  ·obtain⟨b,o,x,rfl,-,hx,q1,hr⟩:=((KP.below hbl).sl akL.ok hA).int hlt;have hn:=hd0 (Ak wr g gs x (hT.all hbl) hr (hP.below hbl) hgl);have HS:=hd0 (mW (cO gs) l k x hx.out);have HL:=hd0 hlk;generalize hws:(l.take k).map (cO gs)=ws at*
   have s0:=hbl.size;have hll:ws.length<=1000000000000:=by rw[HL.out];omega
   clear hx hr hws hlk;go_wp2_with (first
    |(go_at_call 47;refine hn.out.mono ?_;rintro e w1 ⟨rfl,hb1⟩;have s1:=hb1.size)
    |(at_builtin;refine bI rfl (.tmp 14) (.tmp 18) rfl w1 w.heap.size ws.length c3 A3 (strs ws) (cO gs x) rfl rfl (own_below hown hb1) hll (by omega) ?_;intro A4 c4 w2 ho2 hg2))
   go_roundw
   case rel=>exact⟨k+1,by omega,by simp,alA.next hbl hb1 hown (us:=[cO gs x]) ho2 hg2 HS.out⟩
   case measure=>simp[intOf];omega
  obtain rfl:k=l.length:=by omega
  have HL:Hid ((l.take l.length).map (cO gs)=l.map (cO gs)):=by show _=_;rw[anA]
  generalize hws:(l.take l.length).map (cO gs)=ws at*
  clear hws hlk;go_wp2;go_ret
  rw[<-HL.out];exact⟨A3,c3,rfl,hown,hbl⟩
end
end Go.Proofs.YtkijckccfookeaaGreatDoor
