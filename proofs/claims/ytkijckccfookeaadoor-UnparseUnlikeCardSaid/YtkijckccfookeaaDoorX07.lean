/- Lemmas. -/
import Derived.Test.YtkijckccfookeaaDoorX06
import Derived.Deep.RegionHeld3
set_option linter.unusedVariables false
set_option linter.unusedSimpArgs false
set_option maxRecDepth 100000
set_option maxHeartbeats 32000000
namespace Go.Proofs.YtkijckccfookeaaDoor
section
open Go.RowKit
def ae7 (gl:Gl)(s:PS)(L:List (List B))(s':PS):Prop:=Qa L/\∀n,stmts gl s (lT n L)= .ok s'
theorem ae7.nil (gl:Gl)(s:PS):ae7 gl s [] s:=⟨fun l hl=>by simp at hl,fun _=>rfl⟩
theorem ae7.cons {gl:Gl}{s s' s'':PS}{l:List B}{L:List (List B)}(hl:l≠[]/\∀w∈l,bI w=true)(h:stmt gl s l= .ok s')(k:ae7 gl s' L s''):ae7 gl s (l::L) s'':=by
 refine⟨fun x hx=> ?_,fun n=> ?_⟩
 ·rw[agQ] at hx;rcases hx with rfl|hx
  ·exact hl
  exact k.1 x hx
 rw[lT,stmts,h];exact k.2 _
theorem ae7.app {gl:Gl}{s s' s'':PS}{a b:List (List B)}(h:ae7 gl s a s')(k:ae7 gl s' b s''):ae7 gl s (a++b) s'':=by
 refine⟨fun x hx=> ?_,fun n=> ?_⟩
 ·rw[agJ] at hx;rcases hx with hx|hx
  ·exact h.1 x hx
  exact k.1 x hx
 rw[NQ,NR,h.2 n];exact k.2 _
theorem ae7.one {gl:Gl}{s s':PS}{l:List B}(hl:l≠[]/\∀w∈l,bI w=true)(h:stmt gl s l= .ok s'):ae7 gl s [l] s':= .cons hl h (.nil _ _)
theorem ae7.af9 {α:Type}{gl:Gl}(l:List α)(lines:α->List (List B))(st:List α->PS)(h:∀done x rest,l=done++x::rest->ae7 gl (st done) (lines x) (st (done++[x]))):ae7 gl (st []) (l.flatMap lines) (st l):=by
 suffices key:∀rest done,l=done++rest->ae7 gl (st done) (rest.flatMap lines) (st l) from key l [] rfl
 intro rest;induction rest with
 |nil=>intro done e;simp at e;subst e;exact .nil _ _
 |cons x r ih=>intro done e;rw[agV];exact(h done x r e).app (ih (done++[x]) (by simp[e]))
theorem ae7.each {α:Type}{gl:Gl}(l:List α)(line:α->List B)(st:List α->PS)(hl:∀x∈l,line x≠[]/\∀w∈line x,bI w=true)(h:∀done x rest,l=done++x::rest->stmt gl (st done) (line x)= .ok (st (done++[x]))):ae7 gl (st []) (l.map line) (st l):=by
 have e:l.map line=l.flatMap (fun x=>[line x]):=by
  clear hl h;induction l with
  |nil=>rfl
  |cons x r ih=>simp[ih]
 rw[e];exact ae7.af9 l _ st fun done x rest hx=> .one (hl x (by simp[hx])) (h done x rest hx)
def su (a:afp):List B:=[yD,a.name,af a.min',af a.afk,af a.max']
def ui (r:Region):List B:=lM::r.ae0.flatMap iy
def Eb (p:List Ins):List B:=tH::p.map bW
def sD (gs:List aeS)(c:Chr):List B:=[yC,af c.rune,bM gs c.aeT]
def vX (x:afd):List B:=lu::x.name::x.aeO.map af
def EQ (l:Lookup):List B:=iT::pick bF l.kind::if l.afh then [lK] else []
def G9 (c:List Pt):List B:=iG::c.map iE
def wu (gs:List aeS)(p:Part):List B:=[sU,bM gs p.aeT,af p.x,af p.y]
def wQ (a:ae5):List B:=[nD,pick anchorNames a.kind,af a.cls,af a.x,af a.y]
def xU (d:Delta):List B:=[pR,af d.region,af d.point,af d.x,af d.y]
def hiL (h:List Ins):List B:=pJ::h.map bW
def ET (g:aeS):List B:=iL::g.name::af g.advance::if g.mark then [sG] else []
theorem gJ {a:B}{l:List B}(ha:bI a=true)(hl:∀w∈l,bI w=true):a::l≠[]/\∀w∈a::l,bI w=true:=
 ⟨by simp,fun w hw=>by
  rw[agQ] at hw;rcases hw with rfl|hw
  ·exact ha
  exact hl w hw⟩
theorem CW (l:List Int):∀w∈l.map af,bI w=true:=fun w hw=>by
 rw[ag7] at hw;obtain⟨n,-,rfl⟩:=hw;exact oh n
section
variable {gl:Gl} {s:PS}
theorem X7 {a:afp}(h:nameB a.name=true/\N9 a.min'/\N9 a.afk/\N9 a.max'):stmt gl s (su a)= .ok {s with f:= {s.f with aeP:=s.f.aeP++[a]}} :=by obtain⟨h1,h2,h3,h4⟩:=h;rw[su,Vq,LW,AB h1,fA _ h2,fA _ h3,fA _ h4,(dI _ h2).2,(dI _ h3).2,(dI _ h4).2];rfl
theorem YV {a:afp}(h:nameB a.name=true):su a≠[]/\∀w∈su a,bI w=true:=by
 refine⟨by simp[su],fun w hw=> ?_⟩;simp only[su,agQ,ahb,or_false] at hw;rcases hw with rfl|rfl|rfl|rfl|rfl
 ·decide
 ·exact mQ h
 all_goals exact oh _
theorem EE (l:List afm):l.flatMap iy=(l.flatMap fun t=>[t.start,t.peak,t.stop]).map af:=by
 induction l with
 |nil=>rfl
 |cons t r ih=>simp[iy,ih]
theorem Lh (l:List afm):yx (l.flatMap fun t=>[t.start,t.peak,t.stop])=l:=by
 induction l with
 |nil=>rfl
 |cons t r ih=>simp[yx,ih]
theorem Jr (l:List afm):(l.flatMap fun t=>[t.start,t.peak,t.stop]).length=3*l.length:=by
 induction l with
 |nil=>rfl
 |cons t r ih=>simp only[agV,la,ih,aV,ln];omega
theorem XA {r:Region}(h:∀t∈r.ae0,N9 t.start/\N9 t.peak/\N9 t.stop):stmt gl s (ui r)= .ok {s with f:= {s.f with regions:=s.f.regions++[r]}} :=by
 have hn:∀n∈r.ae0.flatMap fun t=>[t.start,t.peak,t.stop],N9 n:=fun n hn=>by
  rw[ahe] at hn;obtain⟨t,ht,hn⟩:=hn;obtain⟨h1,h2,h3⟩:=h t ht;simp only[agQ,ahb,or_false] at hn;rcases hn with rfl|rfl|rfl<;>assumption
 rw[ui,PP,CU,EE,agL,Jr,if_neg (by omega),rU _ hn,Ai _ hn,Lh];rfl
theorem WN (r:Region):ui r≠[]/\∀w∈ui r,bI w=true:=by rw[ui,EE];exact gJ (by decide) (CW _)
theorem XJ {l:List Int}(h:∀n∈l,N9 n):stmt gl s (lY::l.map af)= .ok {s with f:= {s.f with cvt:=s.f.cvt++l}} :=by rw[Zl,Tj,rU _ h,Ai _ h];rfl
theorem Zm {p:List Ins}(h:jr p):stmt gl s (Eb p)= .ok {s with f:= {s.f with funcs:=s.f.funcs++[p]}} :=by obtain⟨h1,h2,h3,-⟩:=xg p h 0;rw[Eb,UL,KZ,h3,h1,h2];rfl
theorem Yk {gs:List aeS}(hg:afo gl gs){c:Chr}(h:N9 c.rune/\In gs.length c.aeT):stmt gl s (sD gs c)= .ok {s with f:= {s.f with chars:=s.f.chars++[c]}} :=by obtain⟨h1,h2⟩:=h;rw[sD,UN,ML,fA _ h1,(wO hg h2 0).1,(dI _ h1).2,(wO hg h2 0).2];rfl
theorem We {gs:List aeS}(hg:afo gl gs){c:Chr}(h:In gs.length c.aeT):sD gs c≠[]/\∀w∈sD gs c,bI w=true:=by
 refine⟨by simp[sD],fun w hw=> ?_⟩;simp only[sD,agQ,ahb,or_false] at hw;rcases hw with rfl|rfl|rfl
 ·decide
 ·exact oh _
 exact mQ (uT hg h).2
theorem Yr {x:afd}(h:nameB x.name=true/\∀n∈x.aeO,N9 n):stmt gl s (vX x)= .ok {s with f:= {s.f with features:=s.f.features++[x]}} :=by obtain⟨h1,h2⟩:=h;rw[vX,Np,zO,AB h1,rU _ h2,Ai _ h2];rfl
theorem Ya {x:afd}(h:nameB x.name=true):vX x≠[]/\∀w∈vX x,bI w=true:=gJ (by decide) (gJ (mQ h) (CW _)).2
theorem Ky {p:List Ins}(h:jr p){a:B}(ha:bI a=true):a::p.map bW≠[]/\∀w∈a::p.map bW,bI w=true:=gJ ha (xg p h 0).2.2.2
theorem Yv {l:Lookup}(h:1<=l.kind/\l.kind<=8):stmt gl s (EQ l)= .ok {s with f:= {s.f with aeO:=s.f.aeO++[⟨l.kind,l.afh,[]⟩]}} :=by obtain⟨h1,-⟩:=DT l.kind h.1 h.2;rw[EQ,PR];cases hi:l.afh<;>simp only[Dy,if_true,if_false,Bool.false_eq_true,true_or,or_true,h1,List.cons_ne_nil]<;>rw[if_neg (by omega)]<;>rfl
theorem Y8 {l:Lookup}(h:1<=l.kind/\l.kind<=8):EQ l≠[]/\∀w∈EQ l,bI w=true:=by
 refine gJ (by decide) (gJ (DT l.kind h.1 h.2).2 fun w hw=> ?_).2;split at hw
 ·simp only[agF] at hw;subst hw;decide
 simp at hw
end
def lst (s:PS)(init:List Lookup)(l:Lookup):PS:= {s with f:= {s.f with aeO:=init++[l]}}
theorem Nb (s:PS)(init:List Lookup)(l:Lookup)(h:Lookup->Lookup):uF (lst s init l) h=lst s init (h l):=by simp[uF,lst]
theorem Jf {gl:Gl}{gs:List aeS}(hg:afo gl gs)(hn:gs.length<=1000)(s:PS)(l:Lookup)(hk:1<=l.kind/\l.kind<=8)(hr:∀r∈l.rules,OkR gs.length l.kind r)(ws:List (List Int)->List B)
  (hw:∀x:List (List Int),(∀y∈x,∀n∈y,In gs.length n)->yu gs (ws x) x/\∀w∈ws x,bI w=true):
  ae7 gl s (EQ l::l.rules.map (fun r=>dC::(ws r.back++[47]::ws r.in'++[47]::ws r.ahead++[62]::outW gs l.kind r))) {s with f:= {s.f with aeO:=s.f.aeO++[l]}} :=by
 refine ae7.cons (Y8 hk) (Yv hk) ?_;have key:=ae7.each (gl:=gl) l.rules (fun r=>dC::(ws r.back++[47]::ws r.in'++[47]::ws r.ahead++[62]::outW gs l.kind r)) (fun d=>lst s s.f.aeO ⟨l.kind,l.afh,d⟩) (fun r hx=> ?_) (fun done r rest e=> ?_)
 ·have e:lst s s.f.aeO ⟨l.kind,l.afh,l.rules⟩= {s with f:= {s.f with aeO:=s.f.aeO++[l]}} :=rfl;rw[<-e];exact key
 ·have ho:=hr r hx;obtain⟨a1,a2⟩:=hw r.back fun y hy=>(ho.back y hy).2
  obtain⟨b1,b2⟩:=hw r.in' fun y hy=>(ho.in' y hy).2
  obtain⟨c1,c2⟩:=hw r.ahead fun y hy=>(ho.ahead y hy).2
  refine gJ (by decide) fun w hw=> ?_
  simp only[agU,agR,agJ,agQ] at hw;rcases hw with hw|rfl|hw|rfl|hw|rfl|hw
  ·exact a2 w hw
  ·decide
  ·exact b2 w hw
  ·decide
  ·exact c2 w hw
  ·decide
  exact(DJ hg _ r ho w hw).2.2
 have ho:=hr r (by simp[e]);rw[Vt,PW hg hn _ ⟨l.kind,l.afh,done⟩ (by simp[lst]) hk r ho _ _ _ (hw r.back fun y hy=>(ho.back y hy).2).1 (hw r.in' fun y hy=>(ho.in' y hy).2).1 (hw r.ahead fun y hy=>(ho.ahead y hy).2).1,Nb]
def lH (s:PS)(init:List aeS)(g:aeS):PS:= {s with f:= {s.f with aeN:=init++[g]}}
theorem nY (s:PS)(init:List aeS)(g:aeS)(h:aeS->aeS):qQ (lH s init g) h=lH s init (h g):=by simp[qQ,lH]
theorem ww (s:PS)(init:List aeS)(g:aeS):(lH s init g).f.aeN≠[]:=by simp[lH]
section
variable {gl:Gl} {s:PS} {init:List aeS} {g:aeS}
theorem YA {gs:List aeS}(hg:afo gl gs){p:Part}(h:In gs.length p.aeT/\N9 p.x/\N9 p.y):stmt gl (lH s init g) (wu gs p)= .ok (lH s init {g with parts:=g.parts++[p]}):=by obtain⟨h1,h2,h3⟩:=h;rw[wu,UT,Ns,if_neg (ww _ _ _)];simp only[(wO hg h1 0).1,(wO hg h1 0).2,fA _ h2,fA _ h3,(dI _ h2).2,(dI _ h3).2,nY];rfl
theorem Yu {gs:List aeS}(hg:afo gl gs){p:Part}(h:In gs.length p.aeT):wu gs p≠[]/\∀w∈wu gs p,bI w=true:=by
 refine⟨by simp[wu],fun w hw=> ?_⟩;simp only[wu,agQ,ahb,or_false] at hw;rcases hw with rfl|rfl|rfl|rfl
 ·decide
 ·exact mQ (uT hg h).2
 all_goals exact oh _
theorem XY {a:ae5}(h:1<=a.kind/\a.kind<=4/\N9 a.cls/\N9 a.x/\N9 a.y):stmt gl (lH s init g) (wQ a)= .ok (lH s init {g with anchors:=g.anchors++[a]}):=by
 obtain⟨h1,h2,h3,h4,h5⟩:=h;obtain⟨k1,-⟩:=EM a.kind h1 h2;have hn:∀n∈[a.cls,a.x,a.y],N9 n:=by simp[h3,h4,h5]
 have he:=rU [a.cls,a.x,a.y] hn 0;rw[wQ,Pi,Dc,if_neg (ww _ _ _)];simp only[agO,ahk] at he;simp only[k1,he,(dI _ h3).2,(dI _ h4).2,(dI _ h5).2,nY];rw[if_neg (by omega)];rfl
theorem XQ {a:ae5}(h:1<=a.kind/\a.kind<=4):wQ a≠[]/\∀w∈wQ a,bI w=true:=by
 refine⟨by simp[wQ],fun w hw=> ?_⟩;simp only[wQ,agQ,ahb,or_false] at hw;rcases hw with rfl|rfl|rfl|rfl|rfl
 ·decide
 ·exact(EM a.kind h.1 h.2).2
 all_goals exact oh _
theorem Yp {d:Delta}(h:N9 d.region/\N9 d.point/\N9 d.x/\N9 d.y):stmt gl (lH s init g) (xU d)= .ok (lH s init {g with deltas:=g.deltas++[d]}):=by
 obtain⟨h1,h2,h3,h4⟩:=h;have hn:∀n∈[d.region,d.point,d.x,d.y],N9 n:=by simp[h1,h2,h3,h4]
 have he:=rU [d.region,d.point,d.x,d.y] hn 0;rw[xU,QH,Hg,if_neg (ww _ _ _)];simp only[agO,ahk] at he;simp only[he,(dI _ h1).2,(dI _ h2).2,(dI _ h3).2,(dI _ h4).2,nY];rfl
theorem Yf (d:Delta):xU d≠[]/\∀w∈xU d,bI w=true:=by
 refine⟨by simp[xU],fun w hw=> ?_⟩;simp only[xU,agQ,ahb,or_false] at hw;rcases hw with rfl|rfl|rfl|rfl|rfl
 ·decide
 all_goals exact oh _
theorem XN {h:List Ins}(hk:jr h):stmt gl (lH s init g) (hiL h)= .ok (lH s init {g with hint:=g.hint++h}):=by obtain⟨h1,h2,h3,-⟩:=xg h hk 0;rw[hiL,Vr,LD,if_neg (ww _ _ _),h3,h1,h2,nY];rfl
theorem YJ {c:List Pt}(hc:∀p∈c,N9 p.x/\N9 p.y)(hne:c≠[]):stmt gl (lH s init g) (G9 c)= .ok (lH s init {g with points:=g.points++c,ends:=g.ends++[((g.points.length+c.length:Nat):Int) - 1]}):=by
 obtain⟨h1,h2,h3,-⟩:=Ip c hc 0;have hb:¬(c.map iE=[]\/(c.map iE).all CY=false):=by rw[h3];simp[hne]
 rw[G9,KO,Ae,if_neg (ww _ _ _),if_neg hb,h1,h2,nY,agL];rfl
theorem Nh (pts:List Pt)(hp:∀p∈pts,N9 p.x/\N9 p.y)(es:List Int)(fr:Nat)(done:List Int)(hfr:fr<=pts.length)(he:gU fr es pts.length)(n:B)(a:Int)(m:Bool):
  ae7 gl (lH s init ⟨n,a,m,pts.take fr,done,[],[],[],[]⟩) ((dK pts fr es).map G9) (lH s init ⟨n,a,m,pts,done++es,[],[],[],[]⟩):=by
 induction es generalizing fr done with
 |nil=>simp only[gU] at he;subst he;rw[agK,ag8];exact .nil _ _
 |cons e es ih=>
  obtain⟨h1,h2,h3⟩:=he;have hmem:∀p∈(pts.take (e.toNat+1)).drop fr,N9 p.x/\N9 p.y:=fun p hq=>hp p (List.mem_of_mem_take (List.mem_of_mem_drop hq))
  have hlen:((pts.take (e.toNat+1)).drop fr).length=e.toNat+1 - fr:=by rw[List.length_drop,agY];omega
  have hne:(pts.take (e.toNat+1)).drop fr≠[]:=fun h0=>by
   rw[h0] at hlen;simp only[ln] at hlen;omega
  rw[dK,if_neg (by omega),agO];refine .cons (gJ (by decide) (Ip _ hmem 0).2.2.2) (YJ hmem hne) ?_;have e1:pts.take fr++(pts.take (e.toNat+1)).drop fr=pts.take (e.toNat+1):=by have:=ag9 fr (pts.take (e.toNat+1));rw[List.take_take,Nat.min_eq_left (by omega)] at this;exact this
  have e2:(((pts.take fr).length+((pts.take (e.toNat+1)).drop fr).length:Nat):Int) - 1=e:=by rw[hlen,agY];omega
  have:=ih (e.toNat+1) (done++[e]) (by omega) h3;simp only[e1,e2];simpa using this
end
end
section
open Go.RowKit Go.Sort
theorem EI {ops:Array Oper}{o:Oper}{a:Act}{K:Act->World->Prop}{Q:Exit->Act->World->Prop}{E:Prop}(hgd:o.guard=none)(s x:Operand)
  (ho:o.op= .call {callee:= .builtin .append,args:= #[s,x],argTypes:= #[46,46]})
  (w1:World) (hsz:Nat) (hh:w1.heap.size=hsz) (base n c m:Nat) (A:Option Addr) (xs:List Value) (us:List B) (hm:us.length=m) (hs:a.eval s= .slice A n c) (hx:a.eval x= .slice (some ⟨hsz,0,none⟩) m m)
  (hown:w1.ownsRow base 9 1 (.slice A n c) n xs) (hn:n+m<=1000000000000) (hb:base<=w1.heap.size)
  (h:∀A' c' w',w'.ownsRow base 9 1 (.slice A' (n+m) c') (n+m) (xs++strs us)->w1.grownBy w' (Value.slice A n c).ownBlock->K (a.put o.dst (.slice A' (n+m) c')) w'):
  if Region.wanted o (yielded ops a.tmps)=true then Oper.wp Tryd.prog o a (w1.alloc (.cells (strs us).toArray 9)) K Q else E:=by
 subst hh;subst hm;obtain⟨i0,hi0,hz0,hz1,hz2⟩:=info_parts yt;refine jA _ hgd s x 46 ho base 9 i0 _ 1 16 Tryd.underlying46 hi0 hz0 hz1 hz2 rfl (by decide) (.slice A n c) n xs hs (hown.alloc _) (w1.heap.size+1) (some ⟨w1.heap.size,0,none⟩) us.length us.length (strs us) hx (Rd.newAt _ _ rfl (strs us).toArray 9 us.length 1 (by simp[IM])) (Az us) (by simp only[maxLen];omega) (by omega) (by simp;omega) ?_;intro v' w' ho' hg _;obtain⟨A',c',rfl⟩:=uZ ho';refine h A' c' w' ho' ⟨hg.os,hg.tape,hg.output,nt (by simp) hg.size,fun i hi hne=> ?_⟩;exact(hg.block i (by simp;omega) hne).trans (Below.heap_alloc _ _ _ hi)
theorem Tabs.drew {w:World}(h:Tabs w):Tabs w.drew:=⟨h.ops,h.anch,h.kinds,h.pow⟩
theorem iU {w w':World}(h:Below w.drew.heap.size w.drew w'):Below w.heap.size w w':=⟨h.os,h.tape,h.output,h.size,h.block⟩
theorem bt {a b c:World}(h:Below a.heap.size a b)(k:Below b.heap.size b c):Below a.heap.size a c:=h.trans (k.mono h.size)
theorem nX {w w':World}{row:Option Nat}(hg:w.grownBy w' row){b o:Nat}{v:Value}(h:w.cell? ⟨b,o,none⟩=some v)(hne:some b≠row):w'.cell? ⟨b,o,none⟩=some v:=(World.cell?_of_block (a:=⟨b,o,none⟩) (hg.block b (World.block_lt_of_cell? w _ h) hne)).trans h
theorem zU (l:List afm):(l.flatMap iy).length=l.length*3:=by
 induction l with
 |nil=>rfl
 |cons x l ih=>simp only[agV,la,ih,iy,aV,ln];omega
theorem Pr.below {w w':World}{Bd g:Nat}{fc:Nat->Value}{txt:B}(h:Pr w Bd g fc txt)(hb:Below w.heap.size w w'):Pr w' Bd g fc txt:=by obtain⟨ad,v,h1,h2,h3,h4⟩:=h;exact⟨ad,v,h1,(hb.block g (Bk.lt h2)).trans h2,h3,own_below h4 hb⟩
theorem jP {w:World}{base n c:Nat}{A:Option Addr}{ws:List B}(h:w.ownsRow base 9 1 (.slice A n c) n (strs ws)):Sl afJ 1 w (FT w) A ws:=Sl.afr h (Ku _ _ _) (fun _ _ hb=>Be hb (by decide) (by decide)) (by decide)
theorem OD (w:World)(Bd g:Nat)(fc:Nat->Value)(txt:B)(A:Option Addr)(c:Nat)(l:List afm)(hT:Tabs w)(hp:Pr w Bd g fc txt)(hBd:Bd<=w.heap.size)(hA:Sl afu 3 w (FT w) A l)(hl:l.length<=10000000000)(hlen:txt.length+(ax lM (l.flatMap iy)).length<=1000000000000):
  Calls Tryd.prog 22 #[.pointer (some ⟨g,0,none⟩),.agg #[.slice A l.length c]] w fun e w'=>e= .returned (.tuple #[])/\Pr w' Bd g fc (txt++ax lM (l.flatMap iy))/\KP w w'/\Below Bd w w':=by
 have hTL:=Nat.le_of_eq (zU l);go_enter Tryd.func22,Tryd.ntmps22
 go_wp2;go_loopw [4,10] (fun v i wr=>∃k:Nat,k<=l.length/\i= .int .i64 k/\afn w ((l.take k).flatMap iy) v wr) (fun _ i _=>l.length - (intOf i).toNat)
 case atStart=>exact⟨0,nz _,rfl,none,0,rfl,⟨rfl,.inl ⟨rfl,rfl⟩⟩,(agE _ _).alloc (ai _) _⟩
 case round=>
  obtain⟨k,hk,rfl,A3,c3,rfl,hown,hbl⟩:=hrel;have hlk:=zU (l.take k);rw[agY,Nat.min_eq_left hk] at hlk;by_cases hlt:k<l.length
  ·obtain⟨b,o,x,rfl,-,hx,q0,q1,q2,r0,r1,r2⟩:=((KP.below hbl).sl afu.ok hA).agk hlt;have HS:=hd0 (bG iy l k x hx.out);generalize hws:(l.take k).flatMap iy=ws at*
   have s0:=hbl.size;have hN0:aft w ws ws.length A3 c3 wr:=⟨rfl,hown,hbl⟩
   have hll:ws.length<=100000000000:=by omega
   have LP:ws.length+3<=1000000000000:=by omega
   obtain⟨x0,x1,x2⟩:=x;dsimp only at q0 q1 q2 r0 r1 r2;have hT1:=hT.all hbl;clear hx hws hlk;have hne:Hid (some wr.heap.size≠(Value.slice A3 ws.length c3).ownBlock):=fun e=>by have:=(hown.lt _ e.symm).2;omega
   go_wp2_with fail
   obtain⟨W1,hW1⟩:∃W1,wr.alloc (.cells #[.int .i64 x0,.int .i64 x1,.int .i64 x2] 86)=W1:=⟨_,rfl⟩
   rw[hW1];have hb0:Below wr.heap.size wr W1:=by rw[<-hW1];exact(agE _ _).alloc (ai _) _
   have hT2:=hT1.all hb0;have k0:W1.cell? ⟨wr.heap.size,0,none⟩=some (.int .i64 x0):=by rw[<-hW1];simp[go_sem]
   have k1:W1.cell? ⟨wr.heap.size,1,none⟩=some (.int .i64 x1):=by rw[<-hW1];simp[go_sem]
   have k2:W1.cell? ⟨wr.heap.size,2,none⟩=some (.int .i64 x2):=by rw[<-hW1];simp[go_sem]
   have z0:=hb0.size;clear hW1 q0 q1 q2
   go_region_held3 (fun w'=>w'.cell? ⟨wr.heap.size,0,none⟩=some (.int .i64 x0)/\w'.cell? ⟨wr.heap.size,1,none⟩=some (.int .i64 x1)/\w'.cell? ⟨wr.heap.size,2,none⟩=some (.int .i64 x2))
    (first
     |exact⟨nX hg4 (ae hc3 k0) hne.out,nX hg4 (ae hc3 k1) hne.out,nX hg4 (ae hc3 k2) hne.out⟩
     |exact⟨ae hc3 k0,ae hc3 k1,ae hc3 k2⟩
     |exact⟨ae hc2 k0,ae hc2 k1,ae hc2 k2⟩
     |exact⟨ae hc1 k0,ae hc1 k1,ae hc1 k2⟩
     |go_keep)
    (first
     |(go_at_call 21;refine(aK _ x0 hT2.drew r0).mono ?_;rintro e w1 ⟨rfl,hb1⟩;have hc1:=iU hb1;have z1:=hc1.size)
     |(go_at_call 21;refine(aK _ x1 (hT2.all hc1) r1).mono ?_;rintro e w2 ⟨rfl,hb2⟩;have hc2:=bt hc1 hb2;have z2:=hc2.size)
     |(go_at_call 21;refine(aK _ x2 (hT2.all hc2) r2).mono ?_;rintro e w3 ⟨rfl,hb3⟩;have hc3:=bt hc2 hb3;have z3:=hc3.size)
     |(refine EI (by rfl) (.tmp 14) (.tmp 24) (by rfl) w3 w3.heap.size rfl w.heap.size ws.length c3 3 A3 (strs ws) [af x0,af x1,af x2] rfl (by go_simp) (by go_simp) (own_below hown (bt hb0 hc3)) LP (nt s0 (nt z0 z3)) ?_;intro A4 c4 w4 dS hg4))
   have zG:=hN0.next (bt hb0 hc3) dS hg4;go_wp2;go_roundw
   case rel=>exact⟨k+1,by omega,by simp,by rw[HS.out];exact zG.s⟩
   case measure=>simp[intOf];omega
  obtain rfl:k=l.length:=by omega
  have HL:Hid ((l.take l.length).flatMap iy=l.flatMap iy):=by show _=_;rw[agK]
  rw[<-HL.out] at hlen hTL;generalize hws:(l.take l.length).flatMap iy=ws at*
  have hb3:=hp.below hbl;have hs3:=jP hown;have hw3:ws.length<=1000000000000:=by omega
  clear hws hlk;go_wp2_with (go_at_call 20;((with_reducible refine(yj _ Bd g fc txt lM A3 c3 ws hb3 hs3 hlen hw3).mono ?_);rintro e w4 ⟨rfl,XR,hk4,hb4⟩))
  go_end0
  rw[<-HL.out];exact⟨rfl,XR,(KP.below hbl).trans hk4,(hbl.mono hBd).trans hb4⟩
end
section
open Go.RowKit
theorem X4 {g:aeS}(h:nameB g.name=true):ET g≠[]/\∀w∈ET g,bI w=true:=by
 refine gJ (by decide) (gJ (mQ h) (gJ (oh _) fun w hw=> ?_).2).2;split at hw
 ·simp only[agF] at hw;subst hw;decide
 simp at hw
theorem Xe {gl:Gl}{s:PS}{g:aeS}(h:nameB g.name=true)(ha:N9 g.advance)(hl:gl.lookup g.name=some s.f.aeN.length):
  stmt gl s (ET g)= .ok (lH s s.f.aeN ⟨g.name,g.advance,g.mark,[],[],[],[],[],[]⟩):=by
 have hv:Bf gl g.name=s.f.aeN.length:=by rw[Bf,hl];rfl
 rw[ET,Q4];cases hm:g.mark<;>simp[GY,AB h,fA _ ha,(dI _ ha).2,hv,lH]
def nU (gs:List aeS)(all:Bool)(g:aeS):List (List B):=ET g::((dK g.points 0 g.ends).map G9++(g.parts.map (wu gs)++(g.anchors.map wQ++(g.deltas.map xU++if all|| !g.hint.isEmpty then [hiL g.hint] else []))))
theorem L9 {gl:Gl}{gs:List aeS}(hg:afo gl gs)(all:Bool)(s:PS)(g:aeS)(h:OkG gs.length g)(hl:gl.lookup g.name=some s.f.aeN.length):
  ae7 gl s (nU gs all g) (lH s s.f.aeN g):=by
 refine .cons (X4 h.name) (Xe h.name h.adv hl) ?_;have r1:=Nh (gl:=gl) (s:=s) (init:=s.f.aeN) g.points h.pts g.ends 0 [] (nz _) h.ends g.name g.advance g.mark;rw[List.take_zero,ahd] at r1;refine r1.app ?_;have r2:=ae7.each (gl:=gl) g.parts (wu gs) (fun d=>lH s s.f.aeN ⟨g.name,g.advance,g.mark,g.points,g.ends,d,[],[],[]⟩) (fun p hp=>Yu hg (h.parts p hp).1) (fun done p rest e=>YA hg (h.parts p (by simp[e])));refine r2.app ?_;have r3:=ae7.each (gl:=gl) g.anchors wQ (fun d=>lH s s.f.aeN ⟨g.name,g.advance,g.mark,g.points,g.ends,g.parts,d,[],[]⟩) (fun p hp=>XQ ⟨(h.anch p hp).1,(h.anch p hp).2.1⟩) (fun done p rest e=>XY (h.anch p (by simp[e])));refine r3.app ?_;have r4:=ae7.each (gl:=gl) g.deltas xU (fun d=>lH s s.f.aeN ⟨g.name,g.advance,g.mark,g.points,g.ends,g.parts,g.anchors,d,[]⟩) (fun p hp=>Yf p) (fun done p rest e=>Yp (h.ae3 p (by simp[e])));refine r4.app ?_;split
 ·have:=ae7.one (gl:=gl) (Ky h.hint (by decide:bI pJ=true)) (XN (gl:=gl) (s:=s) (init:=s.f.aeN) (g:=⟨g.name,g.advance,g.mark,g.points,g.ends,g.parts,g.anchors,g.deltas,[]⟩) h.hint);exact this
 rename_i hn;have e:g.hint=[]:=by
  cases hh:g.hint with
  |nil=>rfl
  |cons a r=>rw[hh] at hn;simp at hn
 have e2:g=⟨g.name,g.advance,g.mark,g.points,g.ends,g.parts,g.anchors,g.deltas,[]⟩:=by conv=>rhs;rw[<-e]
 conv=>arg 4;rw[e2]
 exact .nil _ _
theorem Jm {gl:Gl}{gs:List aeS}(hg:afo gl gs)(all:Bool)(h:∀g∈gs,OkG gs.length g)(s:PS)(hs:s.f.aeN=[]):ae7 gl s (gs.flatMap (nU gs all)) {s with f:= {s.f with aeN:=gs}} :=by
 have key:=ae7.af9 (gl:=gl) gs (nU gs all) (fun d=> {s with f:= {s.f with aeN:=d}}) (fun done g rest e=> ?_)
 ·have e:({s with f:= {s.f with aeN:=[]}} :PS)=s:=by rw[<-hs]
  rw[e] at key;exact key
 exact L9 hg all {s with f:= {s.f with aeN:=done}} g (h g (by simp[e])) (hg.at' done.length g (by rw[e];simp))
theorem NP {gl:Gl}(l:List afp)(h:∀a∈l,nameB a.name=true/\N9 a.min'/\N9 a.afk/\N9 a.max')(s:PS)(hs:s.f.aeP=[]):ae7 gl s (l.map su) {s with f:= {s.f with aeP:=l}} :=by
 have key:=ae7.each (gl:=gl) l su (fun d=> {s with f:= {s.f with aeP:=d}}) (fun a ha=>YV (h a ha).1) (fun done a rest e=>X7 (h a (by simp[e])));have e:({s with f:= {s.f with aeP:=[]}} :PS)=s:=by rw[<-hs]
 rw[e] at key;exact key
theorem OB {gl:Gl}(l:List Region)(h:∀r∈l,∀t∈r.ae0,N9 t.start/\N9 t.peak/\N9 t.stop)(s:PS)(hs:s.f.regions=[]):ae7 gl s (l.map ui) {s with f:= {s.f with regions:=l}} :=by
 have key:=ae7.each (gl:=gl) l ui (fun d=> {s with f:= {s.f with regions:=d}}) (fun a ha=>WN a) (fun done a rest e=>XA (h a (by simp[e])));have e:({s with f:= {s.f with regions:=[]}} :PS)=s:=by rw[<-hs]
 rw[e] at key;exact key
theorem Nq {gl:Gl}(l:List (List Ins))(h:∀p∈l,jr p)(s:PS)(hs:s.f.funcs=[]):ae7 gl s (l.map Eb) {s with f:= {s.f with funcs:=l}} :=by
 have key:=ae7.each (gl:=gl) l Eb (fun d=> {s with f:= {s.f with funcs:=d}}) (fun a ha=>Ky (h a ha) (by decide)) (fun done a rest e=>Zm (h a (by simp[e])));have e:({s with f:= {s.f with funcs:=[]}} :PS)=s:=by rw[<-hs]
 rw[e] at key;exact key
theorem MW {gl:Gl}{gs:List aeS}(hg:afo gl gs)(l:List Chr)(h:∀c∈l,N9 c.rune/\In gs.length c.aeT)(s:PS)(hs:s.f.chars=[]):ae7 gl s (l.map (sD gs)) {s with f:= {s.f with chars:=l}} :=by
 have key:=ae7.each (gl:=gl) l (sD gs) (fun d=> {s with f:= {s.f with chars:=d}}) (fun a ha=>We hg (h a ha).2) (fun done a rest e=>Yk hg (h a (by simp[e])));have e:({s with f:= {s.f with chars:=[]}} :PS)=s:=by rw[<-hs]
 rw[e] at key;exact key
theorem Nz {gl:Gl}(l:List afd)(h:∀x∈l,nameB x.name=true/\∀n∈x.aeO,N9 n)(s:PS)(hs:s.f.features=[]):ae7 gl s (l.map vX) {s with f:= {s.f with features:=l}} :=by
 have key:=ae7.each (gl:=gl) l vX (fun d=> {s with f:= {s.f with features:=d}}) (fun a ha=>Ya (h a ha).1) (fun done a rest e=>Yr (h a (by simp[e])));have e:({s with f:= {s.f with features:=[]}} :PS)=s:=by rw[<-hs]
 rw[e] at key;exact key
def uh (gs:List aeS)(ws:List (List Int)->List B)(l:Lookup):List (List B):=EQ l::l.rules.map (fun r=>dC::(ws r.back++[47]::ws r.in'++[47]::ws r.ahead++[62]::outW gs l.kind r))
theorem Jc {gl:Gl}{gs:List aeS}(hg:afo gl gs)(hn:gs.length<=1000)(l:List Lookup)(h:∀x∈l,1<=x.kind/\x.kind<=8/\∀r∈x.rules,OkR gs.length x.kind r)(ws:List (List Int)->List B)
  (hw:∀x:List (List Int),(∀y∈x,∀n∈y,In gs.length n)->yu gs (ws x) x/\∀w∈ws x,bI w=true) (s:PS) (hs:s.f.aeO=[]):ae7 gl s (l.flatMap (uh gs ws)) {s with f:= {s.f with aeO:=l}} :=by
 have key:=ae7.af9 (gl:=gl) l (uh gs ws) (fun d=> {s with f:= {s.f with aeO:=d}}) (fun done x rest e=>by
  obtain⟨h1,h2,h3⟩:=h x (by simp[e]);exact Jf hg hn {s with f:= {s.f with aeO:=done}} x ⟨h1,h2⟩ h3 ws hw)
 have e:({s with f:= {s.f with aeO:=[]}} :PS)=s:=by rw[<-hs]
 rw[e] at key;exact key
theorem O8 {gl:Gl}{u:Int}(h:N9 u):ae7 gl ps0 [[mG,af u]] {ps0 with unit:=true,f:= {f0 with unit:=u}} :=by refine .one (gJ (by decide) (by simpa using oh u)) ?_;rw[U5];simp[Lp,fA _ h,(dI _ h).2,ps0,f0]
def pF (f:Fnt):List (List B):=[[mG,af f.unit]]++(f.aeP.map su++(f.regions.map ui++((if f.cvt.isEmpty then [] else [lY::f.cvt.map af])++(f.funcs.map Eb++(f.aeN.flatMap (nU f.aeN false)++(f.chars.map (sD f.aeN)++(f.aeO.flatMap (uh f.aeN (bi f.aeN))++f.features.map vX)))))))
theorem Nu {gl:Gl}{f:Fnt}(h:afs f)(hg:afo gl f.aeN):ae7 gl ps0 (pF f) ⟨f,true,[]⟩:=by
 refine(O8 h.unit).app ?_;refine(NP f.aeP h.aeP _ rfl).app ?_;refine(OB f.regions h.regs _ rfl).app ?_;have rc:∀s:PS,s.f.cvt=[]->ae7 gl s (if f.cvt.isEmpty then [] else [lY::f.cvt.map af]) {s with f:= {s.f with cvt:=f.cvt}} :=fun s hs=>by
  split
  ·rename_i he;have e:f.cvt=[]:=by simpa using he
   have e2:({s with f:= {s.f with cvt:=f.cvt}} :PS)=s:=by rw[e,<-hs]
   rw[e2];exact .nil _ _
  have:=ae7.one (gl:=gl) (gJ (by decide:bI lY=true) (CW f.cvt)) (XJ (s:=s) h.cvt);rw[hs] at this;exact this
 refine(rc _ rfl).app ?_;refine(Nq f.funcs h.funcs _ rfl).app ?_;refine(Jm hg false h.aeN _ rfl).app ?_;refine(MW hg f.chars h.chars _ rfl).app ?_;refine(Jc hg h.few f.aeO h.aeO (bi f.aeN) (fun x hx=>⟨Qw hg x hx,fun w hw=>(uX hg x hx w hw).2.2⟩) _ rfl).app ?_;exact Nz f.features h.aeX _ rfl
def qp (L:List (List B)):Prop:=∀l∈L,∀w r,l=w::r->w≠iL
theorem lm (L R:List (List B))(h:qp L)(n:Nat):gY n (L++R)=gY n R:=by
 induction L with
 |nil=>rfl
 |cons l L ih=>
  have:=ih (fun x hx=>h x (by simp[hx]));cases l with
  |nil=>rw[agU,LM];exact this
  |cons w r=>rw[agU,zF,if_neg (h (w::r) (by simp) w r rfl)];exact this
theorem qN {a b:List (List B)}(ha:qp a)(hb:qp b):qp (a++b):=fun l hl=>by
 rw[agJ] at hl;rcases hl with hl|hl
 ·exact ha l hl
 exact hb l hl
theorem lL {α:Type}(l:List α)(f:α->List B)(h:∀x∈l,∀w r,f x=w::r->w≠iL):qp (l.map f):=fun y hy=>by
 rw[ag7] at hy;obtain⟨x,hx,rfl⟩:=hy;exact h x hx
theorem QR {α:Type}(l:List α)(f:α->List (List B))(h:∀x∈l,qp (f x)):qp (l.flatMap f):=fun y hy=>by
 rw[ahe] at hy;obtain⟨x,hx,hy⟩:=hy;exact h x hx y hy
def jU:Nat->List aeS->Gl
 |_,[]=>[]
 |n,g::gs=>(g.name,n)::jU (n+1) gs
theorem EX (G:List aeS)(all:Bool)(gs:List aeS)(hn:∀g∈gs,nameB g.name=true)(R:List (List B))(hR:qp R)(n:Nat):gY n (gs.flatMap (nU G all)++R)=jU n gs:=by
 induction gs generalizing n with
 |nil=>simpa [jU,gY] using lm R [] hR n
 |cons g gs ih=>
  have hno:qp ((dK g.points 0 g.ends).map G9++(g.parts.map (wu G)++(g.anchors.map wQ++(g.deltas.map xU++if all|| !g.hint.isEmpty then [hiL g.hint] else [])))):=by
   refine qN (lL _ _ fun x _ w r e=> ?_) (qN (lL _ _ fun x _ w r e=> ?_) (qN (lL _ _ fun x _ w r e=> ?_) (qN (lL _ _ fun x _ w r e=> ?_) ?_)))
   ·injection e with e _;rw[<-e];decide
   ·injection e with e _;rw[<-e];decide
   ·injection e with e _;rw[<-e];decide
   ·injection e with e _;rw[<-e];decide
   split
   ·intro l hl w r e;simp only[agF] at hl;subst hl;injection e with e _
    rw[<-e];decide
   intro l hl;simp at hl
  rw[agV,nU,agU,agU,ET,zF,if_pos rfl,Qb];simp only[hn g (by simp),if_true];rw[agR,lm _ _ hno,ih (fun x hx=>hn x (by simp[hx]))];rfl
theorem RD (gs:List aeS)(h:(gs.map (·.name)).Nodup)(n:Nat)(i:Nat)(g:aeS)(hi:gs[i]? =some g):(jU n gs).lookup g.name=some (n+i):=by
 induction gs generalizing n i with
 |nil=>simp at hi
 |cons a gs ih=>
  rw[agO,List.nodup_cons] at h;cases i with
  |zero=>simp only[agP,ag3] at hi;subst hi;simp[jU,List.lookup]
  |succ i=>
   simp only[agS] at hi;have hne:g.name≠a.name:=fun e=>h.1 (by rw[<-e];exact List.mem_map_of_mem (agM hi))
   have hb:(g.name==a.name)=false:=by simpa using hne
   rw[jU,List.lookup,hb];show(jU (n+1) gs).lookup g.name=_;rw[ih h.2 (n+1) i hi];congr 1
   omega
theorem Ws (gs:List aeS)(ws:List (List Int)->List B)(l:List Lookup):qp (l.flatMap (uh gs ws)):=QR _ _ fun x _=>by
 intro y hy w r e;rw[uh,agQ,ag7] at hy;rcases hy with rfl|⟨q,_,rfl⟩
 ·injection e with e _;rw[<-e];decide
 injection e with e _;rw[<-e];decide
theorem Yt (l:List afp):qp (l.map su):=lL _ _ fun x _ w r e=>by injection e with e _;rw[<-e];decide
theorem WP (l:List Region):qp (l.map ui):=lL _ _ fun x _ w r e=>by injection e with e _;rw[<-e];decide
theorem X9 (l:List (List Ins)):qp (l.map Eb):=lL _ _ fun x _ w r e=>by injection e with e _;rw[<-e];decide
theorem YE (gs:List aeS)(l:List Chr):qp (l.map (sD gs)):=lL _ _ fun x _ w r e=>by injection e with e _;rw[<-e];decide
theorem Xk (l:List afd):qp (l.map vX):=lL _ _ fun x _ w r e=>by injection e with e _;rw[<-e];decide
theorem YF (u:B):qp [[mG,u]]:=fun l hl w r e=>by
 simp only[agF] at hl;subst hl;injection e with e _
 rw[<-e];decide
theorem KL {f:Fnt}(h:afs f):afo (gY 0 (pF f)) f.aeN:=by
 have hc:qp (if f.cvt.isEmpty then [] else [lY::f.cvt.map af]):=by
  split
  ·intro l hl;simp at hl
  intro l hl w r e;simp only[agF] at hl;subst hl;injection e with e _
  rw[<-e];decide
 have e:gY 0 (pF f)=jU 0 f.aeN:=by rw[pF,lm _ _ (YF _),lm _ _ (Yt _),lm _ _ (WP _),lm _ _ hc,lm _ _ (X9 _)];exact EX _ _ _ (fun g hg=>(h.aeN g hg).name) _ (qN (YE _ _) (qN (Ws _ _ _) (Xk _))) 0
 rw[e];exact⟨fun i g hi=>by rw[RD _ h.apart 0 i g hi,ahh],fun g hg=>(h.aeN g hg).name⟩
theorem Jg (L:List (List B))(f:Fnt)(b:Bool)(c:List (B×List Int))(h:ae7 (gY 0 L) ps0 L ⟨f,b,c⟩):Io (L.flatMap pM)= .ok f:=by rw[Io,Ls L h.1,Pz,h.2 1];rfl
theorem vz {α:Type}(l:List α)(f:α->List B):(l.map f).flatMap pM=l.flatMap (fun x=>pM (f x)):=by
 induction l with
 |nil=>rfl
 |cons a r ih=>simp[ih]
theorem Jl (gs:List aeS)(g:aeS):(nU gs false g).flatMap pM=dn gs g:=by
 rw[nU,dn];simp only[agV,aha,vz,agR];congr 1
 congr 1
 congr 1
 congr 1
 congr 1
 cases h:g.hint.isEmpty<;>simp[hiL,pM]
theorem Gx (gs:List aeS)(l:Lookup):(uh gs (bi gs) l).flatMap pM=di gs l:=by rw[uh,di];simp only[agV,vz];rfl
theorem vI (f:Fnt):(pF f).flatMap pM=gp f:=by
 rw[pF,gp];simp only[aha,vz,agR,agV,ahj,ag8,List.flatMap_assoc,Jl,Gx];congr 1
 congr 1
 congr 1
 congr 1
 cases h:f.cvt.isEmpty<;>simp[pM]
theorem AZ {f:Fnt}(h:afs f):Io (gp f)= .ok f:=by rw[<-vI];exact Jg _ _ _ _ (Nu h (KL h))
theorem OA {f g:Fnt}(hf:afs f)(hg:afs g)(h:gp f=gp g):f=g:=by
 have h1:=AZ hf;have h2:=AZ hg;rw[h,h2] at h1;injection h1 with h1
 exact h1.symm
end
section
open Go.RowKit Go.Sort
theorem qV (a b:B)(ha:a.length<=1000000)(hb:b.length<=1000000):∃u:B,(∀w,(Op.stringOp .add ⟨a.toArray⟩ ⟨b.toArray⟩).run Tryd.prog w= .ok (.string ⟨u.toArray⟩) w)/\u.length<=a.length+b.length/\Hid (u=a++b):=⟨a++b,fun w=>run_string_add_lists w a b (by omega) (by omega),by simp,rfl⟩
theorem Me (w:World)(Bd g:Nat)(fc:Nat->Value)(txt:B)(A:Option Addr)(c:Nat)(l:List Pt)(hT:Tabs w)(hp:Pr w Bd g fc txt)(hBd:Bd<=w.heap.size)(hA:Sl PtR 3 w (FT w) A l)(hl:l.length<=10000000000)(hlen:txt.length+(ax iG (l.map iE)).length<=1000000000000):
  Calls Tryd.prog 46 #[.pointer (some ⟨g,0,none⟩),.slice A l.length c] w fun e w'=>e= .returned (.tuple #[])/\Pr w' Bd g fc (txt++ax iG (l.map iE))/\KP w w'/\Below Bd w w':=by
 have hTL:(l.map iE).length<=l.length:=by simp
 go_enter Tryd.func46,Tryd.ntmps46
 go_wp2;go_loopw [4,10] (fun v i wr=>∃k:Nat,k<=l.length/\i= .int .i64 k/\afn w ((l.take k).map iE) v wr) (fun _ i _=>l.length - (intOf i).toNat)
 case atStart=>exact⟨0,nz _,rfl,by simpa using afn.nil w⟩
 case round=>
  obtain⟨k,hk,rfl,A3,c3,rfl,hown,hbl⟩:=hrel;have hlk:((l.take k).map iE).length<=k:=by simp;omega
  by_cases hlt:k<l.length
  ·obtain⟨b,o,x,rfl,-,hx,q0,q1,q2,r0,r1⟩:=((KP.below hbl).sl PtR.ok hA).pt hlt;have HS:=hd0 (kE iE l k x hx.out);generalize hws:(l.take k).map iE=ws at*
   have s0:=hbl.size;have hN0:aft w ws ws.length A3 c3 wr:=⟨rfl,hown,hbl⟩
   have hll:ws.length<=100000000000:=by omega
   obtain⟨x0,x1,on⟩:=x;dsimp only at q0 q1 q2 r0 r1;have hT1:=hT.all hbl;have n0:=hd0 (fun w hT=>aK w x0 hT r0);have n1:=hd0 (fun w hT=>aK w x1 hT r1);have l0:=oL r0;have l1:=oL r1;have HP:Hid (iE ⟨x0,x1,on⟩=af x0++44::af x1++if on then [] else [42]):=rfl;generalize af x0=t0 at*
   generalize af x1=t1 at*
   obtain⟨u1,a1,m1,U1⟩:=qV t0 [44] (by omega) (by simp);obtain⟨u2,a2,m2,U2⟩:=qV u1 t1 (by simp only[aV,ln] at m1;omega) (by omega);obtain⟨u3,a3,m3,U3⟩:=qV u2 [42] (by simp only[aV,ln] at m1;omega) (by simp);simp only[aV,ln] at m1 m3;clear hx hws hlk r0 r1;go_wp2_with fail
   obtain⟨W1,hW1⟩:∃W1,wr.alloc (.cells #[.int .i64 x0,.int .i64 x1,.bool on] 146)=W1:=⟨_,rfl⟩
   rw[hW1];have hb0:Below wr.heap.size wr W1:=by rw[<-hW1];exact(agE _ _).alloc (ai _) _
   have hT2:=hT1.all hb0;have k0:W1.cell? ⟨wr.heap.size,0,none⟩=some (.int .i64 x0):=by rw[<-hW1];simp[go_sem]
   have k1:W1.cell? ⟨wr.heap.size,1,none⟩=some (.int .i64 x1):=by rw[<-hW1];simp[go_sem]
   have k2:W1.cell? ⟨wr.heap.size,2,none⟩=some (.bool on):=by rw[<-hW1];simp[go_sem]
   have z0:=hb0.size;clear hW1 q0 q1 q2
   go_region_held3 (fun w'=>w'.cell? ⟨wr.heap.size,0,none⟩=some (.int .i64 x0)/\w'.cell? ⟨wr.heap.size,1,none⟩=some (.int .i64 x1))
    (first
     |exact⟨ae hc2 k0,ae hc2 k1⟩
     |exact⟨ae hc1 k0,ae hc1 k1⟩
     |go_keep)
    (first
     |(go_at_call 21;refine(n0.out _ hT2.drew).mono ?_;rintro e w1 ⟨rfl,hb1⟩;have hc1:=iU hb1;have z1:=hc1.size)
     |(go_at_call 21;refine(n1.out _ (hT2.all hc1)).mono ?_;rintro e w2 ⟨rfl,hb2⟩;have hc2:=bt hc1 hb2;have z2:=hc2.size))
   have k3:=ae hc2 k2;have hbw:=bt hb0 hc2;cases on with
   |true=>
    go_wp2_with (at_builtin;refine bC rfl (.tmp 27) (.tmp 29) rfl w2 w.heap.size ws.length c3 A3 (strs ws) u2 rfl rfl (own_below hown hbw) (by omega) (by omega) ?_;intro A4 c4 w4 dS hg4)
    have zG:=hN0.next (us:=[u2]) hbw dS hg4;go_roundw
    case rel=>exact⟨k+1,by omega,by simp,by rw[HS.out,HP.out];rw[U2.out,U1.out] at zG;simpa using zG.s⟩
    case measure=>simp[intOf];omega
   |false=>
    go_wp2_with (at_builtin;refine bC rfl (.tmp 27) (.tmp 29) rfl w2 w.heap.size ws.length c3 A3 (strs ws) u3 rfl rfl (own_below hown hbw) (by omega) (by omega) ?_;intro A4 c4 w4 dS hg4)
    have zG:=hN0.next (us:=[u3]) hbw dS hg4;go_roundw
    case rel=>exact⟨k+1,by omega,by simp,by rw[HS.out,HP.out];rw[U3.out,U2.out,U1.out] at zG;simpa using zG.s⟩
    case measure=>simp[intOf];omega
  obtain rfl:k=l.length:=by omega
  have HL:Hid ((l.take l.length).map iE=l.map iE):=by show _=_;rw[agK]
  rw[<-HL.out] at hlen hTL;generalize hws:(l.take l.length).map iE=ws at*
  have hb3:=hp.below hbl;have hs3:=jP hown;have hw3:ws.length<=1000000000000:=by omega
  clear hws hlk;go_wp2_with (go_at_call 20;((with_reducible refine(yj _ Bd g fc txt iG A3 c3 ws hb3 hs3 hlen hw3).mono ?_);rintro e w4 ⟨rfl,XR,hk4,hb4⟩))
  go_end0
  rw[<-HL.out];exact⟨rfl,XR,(KP.below hbl).trans hk4,(hbl.mono hBd).trans hb4⟩
end
end Go.Proofs.YtkijckccfookeaaDoor
