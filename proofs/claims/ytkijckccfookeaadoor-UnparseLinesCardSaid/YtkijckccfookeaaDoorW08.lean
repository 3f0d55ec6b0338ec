/- Lemmas. -/
import Derived.Test.YtkijckccfookeaaDoorW07
set_option linter.unusedVariables false
set_option linter.unusedSimpArgs false
set_option maxRecDepth 100000
set_option maxHeartbeats 32000000
namespace Go.Proofs.YtkijckccfookeaaDoor
section
open Go.RowKit
theorem Nv {g:Zy}(h:nameB g.name=true):yR g≠[]/\∀w∈yR g,aP w=true:=by
 refine dI (by decide) (dI (iZ h) (dI (jH _) fun w hw=> ?_).2).2;split at hw
 ·simp only[aa1] at hw;subst hw;decide
 simp at hw
theorem Nj {gl:Gl}{s:PS}{g:Zy}(h:nameB g.name=true)(ha:N9 g.advance)(hl:gl.lookup g.name=some s.f.Zt.length):
  stmt gl s (yR g)= .ok (ik s s.f.Zt ⟨g.name,g.advance,g.mark,[],[],[],[],[],[]⟩):=by
 have hv:tC gl g.name=s.f.Zt.length:=by rw[tC,hl];rfl
 rw[yR,GM];cases hm:g.mark<;>simp[yu,rH h,dn _ ha,(bJ _ ha).2,hv,ik]
def jY (gs:List Zy)(all:Bool)(g:Zy):List (List B):=yR g::((bz g.points 0 g.ends).map yf++(g.parts.map (qh gs)++(g.anchors.map pI++(g.deltas.map pW++if all|| !g.hint.isEmpty then [hiL g.hint] else []))))
theorem Eb {gl:Gl}{gs:List Zy}(hg:Z7 gl gs)(all:Bool)(s:PS)(g:Zy)(h:OkG gs.length g)(hl:gl.lookup g.name=some s.f.Zt.length):
  ZG gl s (jY gs all g) (ik s s.f.Zt g):=by
 refine .cons (Nv h.name) (Nj h.name h.Z5 hl) ?_;have r1:=BO (gl:=gl) (s:=s) (init:=s.f.Zt) g.points h.pts g.ends 0 [] (nz _) h.ends g.name g.advance g.mark;rw[List.take_zero,abC] at r1;refine r1.app ?_;have r2:=ZG.each (gl:=gl) g.parts (qh gs) (fun d=>ik s s.f.Zt ⟨g.name,g.advance,g.mark,g.points,g.ends,d,[],[],[]⟩) (fun p hp=>Qi hg (h.parts p hp).1) (fun done p rest e=>PI hg (h.parts p (by simp[e])));refine r2.app ?_;have r3:=ZG.each (gl:=gl) g.anchors pI (fun d=>ik s s.f.Zt ⟨g.name,g.advance,g.mark,g.points,g.ends,g.parts,d,[],[]⟩) (fun p hp=>NJ ⟨(h.anch p hp).1,(h.anch p hp).2.1⟩) (fun done p rest e=>Ox (h.anch p (by simp[e])));refine r3.app ?_;have r4:=ZG.each (gl:=gl) g.deltas pW (fun d=>ik s s.f.Zt ⟨g.name,g.advance,g.mark,g.points,g.ends,g.parts,g.anchors,d,[]⟩) (fun p hp=>Nr p) (fun done p rest e=>Qu (h.aax p (by simp[e])));refine r4.app ?_;split
 ·have:=ZG.one (gl:=gl) (Bi h.hint (by decide:aP iH=true)) (Mc (gl:=gl) (s:=s) (init:=s.f.Zt) (g:=⟨g.name,g.advance,g.mark,g.points,g.ends,g.parts,g.anchors,g.deltas,[]⟩) h.hint);exact this
 rename_i hn;have e:g.hint=[]:=by
  cases hh:g.hint with
  |nil=>rfl
  |cons a r=>rw[hh] at hn;simp at hn
 have e2:g=⟨g.name,g.advance,g.mark,g.points,g.ends,g.parts,g.anchors,g.deltas,[]⟩:=by conv=>rhs;rw[<-e]
 conv=>arg 4;rw[e2]
 exact .nil _ _
theorem Ae {gl:Gl}{gs:List Zy}(hg:Z7 gl gs)(all:Bool)(h:∀g∈gs,OkG gs.length g)(s:PS)(hs:s.f.Zt=[]):ZG gl s (gs.flatMap (jY gs all)) {s with f:= {s.f with Zt:=gs}} :=by
 have key:=ZG.aaG (gl:=gl) gs (jY gs all) (fun d=> {s with f:= {s.f with Zt:=d}}) (fun done g rest e=> ?_)
 ·have e:({s with f:= {s.f with Zt:=[]}} :PS)=s:=by rw[<-hs]
  rw[e] at key;exact key
 exact Eb hg all {s with f:= {s.f with Zt:=done}} g (h g (by simp[e])) (hg.at' done.length g (by rw[e];simp))
theorem Fj {gl:Gl}(l:List aap)(h:∀a∈l,nameB a.name=true/\N9 a.min'/\N9 a.aas/\N9 a.max')(s:PS)(hs:s.f.ZA=[]):ZG gl s (l.map mM) {s with f:= {s.f with ZA:=l}} :=by
 have key:=ZG.each (gl:=gl) l mM (fun d=> {s with f:= {s.f with ZA:=d}}) (fun a ha=>Md (h a ha).1) (fun done a rest e=>OT (h a (by simp[e])));have e:({s with f:= {s.f with ZA:=[]}} :PS)=s:=by rw[<-hs]
 rw[e] at key;exact key
theorem Ej {gl:Gl}(l:List Region)(h:∀r∈l,∀t∈r.ZU,N9 t.start/\N9 t.peak/\N9 t.stop)(s:PS)(hs:s.f.regions=[]):ZG gl s (l.map oQ) {s with f:= {s.f with regions:=l}} :=by
 have key:=ZG.each (gl:=gl) l oQ (fun d=> {s with f:= {s.f with regions:=d}}) (fun a ha=>Oa a) (fun done a rest e=>Qn (h a (by simp[e])));have e:({s with f:= {s.f with regions:=[]}} :PS)=s:=by rw[<-hs]
 rw[e] at key;exact key
theorem D5 {gl:Gl}(l:List (List Ins))(h:∀p∈l,gU p)(s:PS)(hs:s.f.funcs=[]):ZG gl s (l.map wS) {s with f:= {s.f with funcs:=l}} :=by
 have key:=ZG.each (gl:=gl) l wS (fun d=> {s with f:= {s.f with funcs:=d}}) (fun a ha=>Bi (h a ha) (by decide)) (fun done a rest e=>O7 (h a (by simp[e])));have e:({s with f:= {s.f with funcs:=[]}} :PS)=s:=by rw[<-hs]
 rw[e] at key;exact key
theorem Cc {gl:Gl}{gs:List Zy}(hg:Z7 gl gs)(l:List Chr)(h:∀c∈l,N9 c.rune/\In gs.length c.ZF)(s:PS)(hs:s.f.chars=[]):ZG gl s (l.map (mX gs)) {s with f:= {s.f with chars:=l}} :=by
 have key:=ZG.each (gl:=gl) l (mX gs) (fun d=> {s with f:= {s.f with chars:=d}}) (fun a ha=>Np hg (h a ha).2) (fun done a rest e=>Qb hg (h a (by simp[e])));have e:({s with f:= {s.f with chars:=[]}} :PS)=s:=by rw[<-hs]
 rw[e] at key;exact key
theorem Dc {gl:Gl}(l:List aad)(h:∀x∈l,nameB x.name=true/\∀n∈x.Zu,N9 n)(s:PS)(hs:s.f.features=[]):ZG gl s (l.map ql) {s with f:= {s.f with features:=l}} :=by
 have key:=ZG.each (gl:=gl) l ql (fun d=> {s with f:= {s.f with features:=d}}) (fun a ha=>OH (h a ha).1) (fun done a rest e=>NM (h a (by simp[e])));have e:({s with f:= {s.f with features:=[]}} :PS)=s:=by rw[<-hs]
 rw[e] at key;exact key
def oN (gs:List Zy)(ws:List (List Int)->List B)(l:Lookup):List (List B):=yT l::l.rules.map (fun r=>bn::(ws r.back++[47]::ws r.in'++[47]::ws r.ahead++[62]::outW gs l.kind r))
theorem zF {gl:Gl}{gs:List Zy}(hg:Z7 gl gs)(hn:gs.length<=1000)(l:List Lookup)(h:∀x∈l,1<=x.kind/\x.kind<=8/\∀r∈x.rules,OkR gs.length x.kind r)(ws:List (List Int)->List B)
  (hw:∀x:List (List Int),(∀y∈x,∀n∈y,In gs.length n)->qM gs (ws x) x/\∀w∈ws x,aP w=true) (s:PS) (hs:s.f.Zu=[]):ZG gl s (l.flatMap (oN gs ws)) {s with f:= {s.f with Zu:=l}} :=by
 have key:=ZG.aaG (gl:=gl) l (oN gs ws) (fun d=> {s with f:= {s.f with Zu:=d}}) (fun done x rest e=>by
  obtain⟨h1,h2,h3⟩:=h x (by simp[e]);exact zZ hg hn {s with f:= {s.f with Zu:=done}} x ⟨h1,h2⟩ h3 ws hw)
 have e:({s with f:= {s.f with Zu:=[]}} :PS)=s:=by rw[<-hs]
 rw[e] at key;exact key
theorem FU {gl:Gl}{u:Int}(h:N9 u):ZG gl ps0 [[dO,af u]] {ps0 with unit:=true,f:= {f0 with unit:=u}} :=by refine .one (dI (by decide) (by simpa using jH u)) ?_;rw[KY];simp[DJ,dn _ h,(bJ _ h).2,ps0,f0]
def kz (f:Fnt):List (List B):=[[dO,af f.unit]]++(f.ZA.map mM++(f.regions.map oQ++((if f.ZB.isEmpty then [] else [fH::f.ZB.map af])++(f.funcs.map wS++(f.Zt.flatMap (jY f.Zt false)++(f.chars.map (mX f.Zt)++(f.Zu.flatMap (oN f.Zt (aQ f.Zt))++f.features.map ql)))))))
theorem D6 {gl:Gl}{f:Fnt}(h:aav f)(hg:Z7 gl f.Zt):ZG gl ps0 (kz f) ⟨f,true,[]⟩:=by
 refine(FU h.unit).app ?_;refine(Fj f.ZA h.ZA _ rfl).app ?_;refine(Ej f.regions h.regs _ rfl).app ?_;have rc:∀s:PS,s.f.ZB=[]->ZG gl s (if f.ZB.isEmpty then [] else [fH::f.ZB.map af]) {s with f:= {s.f with ZB:=f.ZB}} :=fun s hs=>by
  split
  ·rename_i he;have e:f.ZB=[]:=by simpa using he
   have e2:({s with f:= {s.f with ZB:=f.ZB}} :PS)=s:=by rw[e,<-hs]
   rw[e2];exact .nil _ _
  have:=ZG.one (gl:=gl) (dI (by decide:aP fH=true) (ww f.ZB)) (Qc (s:=s) h.ZB);rw[hs] at this;exact this
 refine(rc _ rfl).app ?_;refine(D5 f.funcs h.funcs _ rfl).app ?_;refine(Ae hg false h.Zt _ rfl).app ?_;refine(Cc hg f.chars h.chars _ rfl).app ?_;refine(zF hg h.few f.Zu h.Zu (aQ f.Zt) (fun x hx=>⟨GN hg x hx,fun w hw=>(oh hg x hx w hw).2.2⟩) _ rfl).app ?_;exact Dc f.features h.aal _ rfl
def kL (L:List (List B)):Prop:=∀l∈L,∀w r,l=w::r->w≠bP
theorem iC (L R:List (List B))(h:kL L)(n:Nat):ed n (L++R)=ed n R:=by
 induction L with
 |nil=>rfl
 |cons l L ih=>
  have:=ih (fun x hx=>h x (by simp[hx]));cases l with
  |nil=>rw[abh,Ec];exact this
  |cons w r=>rw[abh,qX,if_neg (h (w::r) (by simp) w r rfl)];exact this
theorem kY {a b:List (List B)}(ha:kL a)(hb:kL b):kL (a++b):=fun l hl=>by
 rw[aa5] at hl;rcases hl with hl|hl
 ·exact ha l hl
 exact hb l hl
theorem iD {α:Type}(l:List α)(f:α->List B)(h:∀x∈l,∀w r,f x=w::r->w≠bP):kL (l.map f):=fun y hy=>by
 rw[abv] at hy;obtain⟨x,hx,rfl⟩:=hy;exact h x hx
theorem Iq {α:Type}(l:List α)(f:α->List (List B))(h:∀x∈l,kL (f x)):kL (l.flatMap f):=fun y hy=>by
 rw[abE] at hy;obtain⟨x,hx,hy⟩:=hy;exact h x hx y hy
def fV:Nat->List Zy->Gl
 |_,[]=>[]
 |n,g::gs=>(g.name,n)::fV (n+1) gs
theorem xE (G:List Zy)(all:Bool)(gs:List Zy)(hn:∀g∈gs,nameB g.name=true)(R:List (List B))(hR:kL R)(n:Nat):ed n (gs.flatMap (jY G all)++R)=fV n gs:=by
 induction gs generalizing n with
 |nil=>simpa [fV,ed] using iC R [] hR n
 |cons g gs ih=>
  have hno:kL ((bz g.points 0 g.ends).map yf++(g.parts.map (qh G)++(g.anchors.map pI++(g.deltas.map pW++if all|| !g.hint.isEmpty then [hiL g.hint] else [])))):=by
   refine kY (iD _ _ fun x _ w r e=> ?_) (kY (iD _ _ fun x _ w r e=> ?_) (kY (iD _ _ fun x _ w r e=> ?_) (kY (iD _ _ fun x _ w r e=> ?_) ?_)))
   ·injection e with e _;rw[<-e];decide
   ·injection e with e _;rw[<-e];decide
   ·injection e with e _;rw[<-e];decide
   ·injection e with e _;rw[<-e];decide
   split
   ·intro l hl w r e;simp only[aa1] at hl;subst hl;injection e with e _
    rw[<-e];decide
   intro l hl;simp at hl
  rw[abj,jY,abh,abh,yR,qX,if_pos rfl,EC];simp only[hn g (by simp),if_true];rw[abe,iC _ _ hno,ih (fun x hx=>hn x (by simp[hx]))];rfl
theorem I4 (gs:List Zy)(h:(gs.map (·.name)).Nodup)(n:Nat)(i:Nat)(g:Zy)(hi:gs[i]? =some g):(fV n gs).lookup g.name=some (n+i):=by
 induction gs generalizing n i with
 |nil=>simp at hi
 |cons a gs ih=>
  rw[aba,List.nodup_cons] at h;cases i with
  |zero=>simp only[abb,abq] at hi;subst hi;simp[fV,List.lookup]
  |succ i=>
   simp only[abf] at hi;have hne:g.name≠a.name:=fun e=>h.1 (by rw[<-e];exact List.mem_map_of_mem (aa8 hi))
   have hb:(g.name==a.name)=false:=by simpa using hne
   rw[fV,List.lookup,hb];show(fV (n+1) gs).lookup g.name=_;rw[ih h.2 (n+1) i hi];congr 1
   omega
theorem PK (gs:List Zy)(ws:List (List Int)->List B)(l:List Lookup):kL (l.flatMap (oN gs ws)):=Iq _ _ fun x _=>by
 intro y hy w r e;rw[oN,abd,abv] at hy;rcases hy with rfl|⟨q,_,rfl⟩
 ·injection e with e _;rw[<-e];decide
 injection e with e _;rw[<-e];decide
theorem MH (l:List aap):kL (l.map mM):=iD _ _ fun x _ w r e=>by injection e with e _;rw[<-e];decide
theorem MG (l:List Region):kL (l.map oQ):=iD _ _ fun x _ w r e=>by injection e with e _;rw[<-e];decide
theorem Px (l:List (List Ins)):kL (l.map wS):=iD _ _ fun x _ w r e=>by injection e with e _;rw[<-e];decide
theorem Ot (gs:List Zy)(l:List Chr):kL (l.map (mX gs)):=iD _ _ fun x _ w r e=>by injection e with e _;rw[<-e];decide
theorem MP (l:List aad):kL (l.map ql):=iD _ _ fun x _ w r e=>by injection e with e _;rw[<-e];decide
theorem MC (u:B):kL [[dO,u]]:=fun l hl w r e=>by
 simp only[aa1] at hl;subst hl;injection e with e _
 rw[<-e];decide
theorem DU {f:Fnt}(h:aav f):Z7 (ed 0 (kz f)) f.Zt:=by
 have hc:kL (if f.ZB.isEmpty then [] else [fH::f.ZB.map af]):=by
  split
  ·intro l hl;simp at hl
  intro l hl w r e;simp only[aa1] at hl;subst hl;injection e with e _
  rw[<-e];decide
 have e:ed 0 (kz f)=fV 0 f.Zt:=by rw[kz,iC _ _ (MC _),iC _ _ (MH _),iC _ _ (MG _),iC _ _ hc,iC _ _ (Px _)];exact xE _ _ _ (fun g hg=>(h.Zt g hg).name) _ (kY (Ot _ _) (kY (PK _ _ _) (MP _))) 0
 rw[e];exact⟨fun i g hi=>by rw[I4 _ h.apart 0 i g hi,abI],fun g hg=>(h.Zt g hg).name⟩
theorem nS {α:Type}(l:List α)(f:α->List B):(l.map f).flatMap lg=l.flatMap (fun x=>lg (f x)):=by
 induction l with
 |nil=>rfl
 |cons a r ih=>simp[ih]
theorem Ak (gs:List Zy)(g:Zy):(jY gs false g).flatMap lg=bi gs g:=by
 rw[jY,bi];simp only[abj,aby,nS,abe];congr 1
 congr 1
 congr 1
 congr 1
 congr 1
 cases h:g.hint.isEmpty<;>simp[hiL,lg]
theorem xZ (gs:List Zy)(l:Lookup):(oN gs (aQ gs) l).flatMap lg=bf gs l:=by rw[oN,bf];simp only[abj,nS];rfl
theorem uk (f:Fnt):(kz f).flatMap lg=fC f:=by
 rw[kz,fC];simp only[aby,nS,abe,abj,abJ,abw,List.flatMap_assoc,Ak,xZ];congr 1
 congr 1
 congr 1
 congr 1
 cases h:f.ZB.isEmpty<;>simp[lg]
end
section
open Go.RowKit Go.Sort
theorem lF (a b:B)(ha:a.length<=1000000)(hb:b.length<=1000000):∃u:B,(∀w,(Op.stringOp .add ⟨a.toArray⟩ ⟨b.toArray⟩).run Tryd.prog w= .ok (.string ⟨u.toArray⟩) w)/\u.length<=a.length+b.length/\Hid (u=a++b):=⟨a++b,fun w=>run_string_add_lists w a b (by omega) (by omega),by simp,rfl⟩
theorem Cm (w:World)(Bd g:Nat)(fc:Nat->Value)(txt:B)(A:Option Addr)(c:Nat)(l:List Pt)(hT:Tabs w)(hp:Pr w Bd g fc txt)(hBd:Bd<=w.heap.size)(hA:Sl PtR 3 w (FT w) A l)(hl:l.length<=10000000000)(hlen:txt.length+(ai bI (l.map dN)).length<=1000000000000):
  Calls Tryd.prog 46 #[.pointer (some ⟨g,0,none⟩),.slice A l.length c] w fun e w'=>e= .returned (.tuple #[])/\Pr w' Bd g fc (txt++ai bI (l.map dN))/\KP w w'/\Below Bd w w':=by
 have hTL:(l.map dN).length<=l.length:=by simp
 go_enter Tryd.func46,Tryd.ntmps46
 go_wp2;go_loopw [4,10] (fun v i wr=>∃k:Nat,k<=l.length/\i= .int .i64 k/\Z9 w ((l.take k).map dN) v wr) (fun _ i _=>l.length - (intOf i).toNat)
 case atStart=>exact⟨0,nz _,rfl,by simpa using Z9.nil w⟩
 case round=>
  obtain⟨k,hk,rfl,A3,c3,rfl,hown,hbl⟩:=hrel;have hlk:((l.take k).map dN).length<=k:=by simp;omega
  by_cases hlt:k<l.length
  ·obtain⟨b,o,x,rfl,-,hx,q0,q1,q2,r0,r1⟩:=((KP.below hbl).sl PtR.ok hA).pt hlt;have HS:=hd0 (gu dN l k x hx.out);generalize hws:(l.take k).map dN=ws at*
   have s0:=hbl.size;have hN0:aaj w ws ws.length A3 c3 wr:=⟨rfl,hown,hbl⟩
   have hll:ws.length<=100000000000:=by omega
   obtain⟨x0,x1,on⟩:=x;dsimp only at q0 q1 q2 r0 r1;have hT1:=hT.all hbl;have n0:=hd0 (fun w hT=>aA w x0 hT r0);have n1:=hd0 (fun w hT=>aA w x1 hT r1);have l0:=jU r0;have l1:=jU r1;have HP:Hid (dN ⟨x0,x1,on⟩=af x0++44::af x1++if on then [] else [42]):=rfl;generalize af x0=t0 at*
   generalize af x1=t1 at*
   obtain⟨u1,a1,m1,U1⟩:=lF t0 [44] (by omega) (by simp);obtain⟨u2,a2,m2,U2⟩:=lF u1 t1 (by simp only[lc,ln] at m1;omega) (by omega);obtain⟨u3,a3,m3,U3⟩:=lF u2 [42] (by simp only[lc,ln] at m1;omega) (by simp);simp only[lc,ln] at m1 m3;clear hx hws hlk r0 r1;go_wp2_with fail
   obtain⟨W1,hW1⟩:∃W1,wr.alloc (.cells #[.int .i64 x0,.int .i64 x1,.bool on] 146)=W1:=⟨_,rfl⟩
   rw[hW1];have hb0:Below wr.heap.size wr W1:=by rw[<-hW1];exact(aa0 _ _).alloc (ag _) _
   have hT2:=hT1.all hb0;have k0:W1.cell? ⟨wr.heap.size,0,none⟩=some (.int .i64 x0):=by rw[<-hW1];simp[go_sem]
   have k1:W1.cell? ⟨wr.heap.size,1,none⟩=some (.int .i64 x1):=by rw[<-hW1];simp[go_sem]
   have k2:W1.cell? ⟨wr.heap.size,2,none⟩=some (.bool on):=by rw[<-hW1];simp[go_sem]
   have z0:=hb0.size;clear hW1 q0 q1 q2
   go_region_held3 (fun w'=>w'.cell? ⟨wr.heap.size,0,none⟩=some (.int .i64 x0)/\w'.cell? ⟨wr.heap.size,1,none⟩=some (.int .i64 x1))
    (first
     |exact⟨ae hc2 k0,ae hc2 k1⟩
     |exact⟨ae hc1 k0,ae hc1 k1⟩
     |go_keep)
    (first
     |(go_at_call 21;refine(n0.out _ hT2.drew).mono ?_;rintro e w1 ⟨rfl,hb1⟩;have hc1:=dW hb1;have z1:=hc1.size)
     |(go_at_call 21;refine(n1.out _ (hT2.all hc1)).mono ?_;rintro e w2 ⟨rfl,hb2⟩;have hc2:=bt hc1 hb2;have z2:=hc2.size))
   have k3:=ae hc2 k2;have hbw:=bt hb0 hc2;cases on with
   |true=>
    go_wp2_with (at_builtin;refine aJ rfl (.tmp 27) (.tmp 29) rfl w2 w.heap.size ws.length c3 A3 (strs ws) u2 rfl rfl (own_below hown hbw) (by omega) (by omega) ?_;intro A4 c4 w4 ho4 hg4)
    have qY:=hN0.next (us:=[u2]) hbw ho4 hg4;go_roundw
    case rel=>exact⟨k+1,by omega,by simp,by rw[HS.out,HP.out];rw[U2.out,U1.out] at qY;simpa using qY.s⟩
    case measure=>simp[intOf];omega
   |false=>
    go_wp2_with (at_builtin;refine aJ rfl (.tmp 27) (.tmp 29) rfl w2 w.heap.size ws.length c3 A3 (strs ws) u3 rfl rfl (own_below hown hbw) (by omega) (by omega) ?_;intro A4 c4 w4 ho4 hg4)
    have qY:=hN0.next (us:=[u3]) hbw ho4 hg4;go_roundw
    case rel=>exact⟨k+1,by omega,by simp,by rw[HS.out,HP.out];rw[U3.out,U2.out,U1.out] at qY;simpa using qY.s⟩
    case measure=>simp[intOf];omega
  obtain rfl:k=l.length:=by omega
  have HL:Hid ((l.take l.length).map dN=l.map dN):=by show _=_;rw[aa6]
  rw[<-HL.out] at hlen hTL;generalize hws:(l.take l.length).map dN=ws at*
  have hb3:=hp.below hbl;have hs3:=fM hown;have hw3:ws.length<=1000000000000:=by omega
  clear hws hlk;go_wp2_with (go_at_call 20;((with_reducible refine(qK _ Bd g fc txt bI A3 c3 ws hb3 hs3 hlen hw3).mono ?_);rintro e w4 ⟨rfl,Oi,hk4,hb4⟩))
  go_end0
  rw[<-HL.out];exact⟨rfl,Oi,(KP.below hbl).trans hk4,(hbl.mono hBd).trans hb4⟩
end
section
open Go.RowKit
theorem mY {α β:Type}(l:List α)(f:α->List β)(k n:Nat)(h:∀x∈l,(f x).length<=k)(hl:l.length<=n):(l.flatMap f).length<=n*k:=by
 have:(l.flatMap f).length<=l.length*k:=by
  clear hl;induction l with
  |nil=>simp
  |cons a r ih=>rw[abj,la,lc,abP];have:=h a (by simp);have:=ih (fun x hx=>h x (by simp[hx]));omega
 exact nt this (Nat.mul_le_mul_right k hl)
theorem lu (n:Int)(h:N9 n):(af n).length<=10:=by
 unfold N9 at h;unfold af Lib.itoa;split
 ·have:=(qQ n.natAbs (by omega)).2;rw[lc];omega
 have:=(qQ n.toNat (by omega)).2;omega
theorem oI {s:B}(h:nameB s=true):s.length<=16:=by rw[nameB,abo,decide_eq_true_iff] at h;exact h.1.2
def W32 (l:List B):Prop:=∀w∈l,w.length<=32
theorem W32.nil:W32 []:=fun w h=>by simp at h
theorem W32.cons {w:B}{l:List B}(h:w.length<=32)(k:W32 l):W32 (w::l):=fun x hx=>by
 rw[abd] at hx;rcases hx with rfl|hx
 ·exact h
 exact k x hx
theorem W32.app {a b:List B}(h:W32 a)(k:W32 b):W32 (a++b):=fun x hx=>by
 rw[aa5] at hx;rcases hx with hx|hx
 ·exact h x hx
 exact k x hx
theorem W32.map {α:Type}{l:List α}{f:α->B}(h:∀x∈l,(f x).length<=32):W32 (l.map f):=fun w hw=>by
 rw[abv] at hw;obtain⟨x,hx,rfl⟩:=hw;exact h x hx
theorem W32.flat {α:Type}{l:List α}{f:α->List B}(h:∀x∈l,W32 (f x)):W32 (l.flatMap f):=fun w hw=>by
 rw[abE] at hw;obtain⟨x,hx,hw⟩:=hw;exact h x hx w hw
theorem W32.it {l:List Int}(h:∀n∈l,N9 n):W32 (l.map af):=W32.map fun n hn=>nt (lu n (h n hn)) (by decide)
theorem Jb (l:List B)(h:W32 l):(bK l).length<=33*l.length:=by have:(bK l).length<=l.length*33:=mY l _ 33 l.length (fun w hw=>by rw[lc];have:=h w hw;omega) (ag _);omega
def Lk (L:List (List B))(k:Nat):Prop:=(L.flatMap lg).length<=k
theorem Lk.line {l:List B}{n:Nat}(h:W32 l)(hl:l.length<=n):Lk [l] (33*n+1):=by
 unfold Lk;cases l with
 |nil=>simp[lg]
 |cons w r=>simp only[abj,abJ,abw,lg,ai,la,lc,ln];have h1:=h w (by simp);have h2:=Jb r (fun x hx=>h x (by simp[hx]));rw[lc] at hl;omega
theorem Lk.mono {L:List (List B)}{k n:Nat}(h:Lk L k)(hk:k<=n):Lk L n:=nt h hk
theorem Lk.nil (k:Nat):Lk [] k:=nz _
theorem Lk.app {a b:List (List B)}{k n:Nat}(h:Lk a k)(g:Lk b n):Lk (a++b) (k+n):=by
 unfold Lk at*
 rw[aby,la];omega
theorem Lk.cons {l:List B}{b:List (List B)}{k n:Nat}(h:Lk [l] k)(g:Lk b n):Lk (l::b) (k+n):=h.app g
theorem Lk.map {α:Type}{l:List α}{f:α->List B}{k n:Nat}(h:∀x∈l,Lk [f x] k)(hl:l.length<=n):Lk (l.map f) (n*k):=by
 unfold Lk at*
 rw[nS];exact mY l _ k n (fun x hx=>by have:=h x hx;simpa using this) hl
theorem Lk.flat {α:Type}{l:List α}{f:α->List (List B)}{k n:Nat}(h:∀x∈l,Lk (f x) k)(hl:l.length<=n):Lk (l.flatMap f) (n*k):=by
 unfold Lk at*
 rw[List.flatMap_assoc];exact mY l _ k n h hl
structure SmR (r:Z8):Prop where
 rows:r.back.length<=3/\r.in'.length<=3/\r.ahead.length<=3
 sets:(∀s∈r.back,s.length<=4)/\(∀s∈r.in',s.length<=4)/\∀s∈r.ahead,s.length<=4
 outs:r.out.length<=4/\r.calls.length<=2
structure SmG (g:Zy):Prop where
 pts:g.points.length<=12
 ends:g.ends.length<=2
 parts:g.parts.length<=1
 anch:g.anchors.length<=5
 aax:g.deltas.length<=40
 hint:g.hint.length<=60
structure SmF (f:Fnt):Prop where
 Zt:f.Zt.length<=10/\∀g∈f.Zt,SmG g
 chars:f.chars.length<=16
 Zu:f.Zu.length<=6/\∀l∈f.Zu,l.rules.length<=3/\∀r∈l.rules,SmR r
 aal:f.features.length<=8/\∀x∈f.features,x.Zu.length<=6
 ZA:f.ZA.length<=2
 regs:f.regions.length<=3/\∀r∈f.regions,r.ZU.length<=2
 funcs:f.funcs.length<=2/\∀p∈f.funcs,p.length<=60
 ZB:f.ZB.length<=3
theorem Ph:∀s∈opNames,s.length<=8:=by decide
theorem Hg:∀s∈aK,s.length<=9:=by decide
theorem Ef:∀s∈anchorNames,s.length<=9:=by decide
theorem rW (l:List B)(k:Nat)(h:∀s∈l,s.length<=k)(hk:1<=k)(n:Int):(pick l n).length<=k:=by
 unfold pick;split
 ·exact hk
 cases e:l[(n - 1).toNat]? with
 |none=>exact hk
 |some s=>exact h s (aa8 e)
theorem pX {gs:List Zy}(h:∀g∈gs,nameB g.name=true){n:Int}(hn:In gs.length n):(aT gs n).length<=32:=by obtain⟨h1,h2⟩:=hn;have e:gs[n.toNat]? =some (gs[n.toNat]'(by omega)):=aa3 (by omega);unfold aT;rw[if_neg (by omega),e];exact nt (oI (h _ (List.getElem_mem _))) (by decide)
theorem Lm {i:Ins}(h:N9 i.a):(aX i).length<=32:=by
 have h1:=rW opNames 8 Ph (by decide) i.op;have h2:=lu i.a h;unfold aX fJ;rw[la];split
 ·simp only[ln];omega
 rw[lc];omega
theorem OC {p:Pt}(h:N9 p.x/\N9 p.y):(dN p).length<=32:=by
 have h1:=lu p.x h.1;have h2:=lu p.y h.2;unfold dN;simp only[la,lc];split
 ·simp only[ln];omega
 simp only[lc,ln];omega
theorem Iw {c:Call}(h:N9 c.at'/\N9 c.lookup):(af c.at'++58::af c.lookup).length<=32:=by have h1:=lu c.at' h.1;have h2:=lu c.lookup h.2;simp only[la,lc];omega
theorem n32 {n:Int}(h:N9 n):(af n).length<=32:=nt (lu n h) (by decide)
theorem PY {p:List Ins}(h:gU p):W32 (p.map aX):=W32.map fun i hi=>Lm (h i hi).2.2
theorem BG {p:List Ins}(h:gU p)(hl:p.length<=60){a:B}(ha:a.length<=32):Lk [a::p.map aX] 2014:=Lk.line (n:=61) (.cons ha (PY h)) (by rw[lc,aa7];omega)
theorem Fq (pts:List Pt)(es:List Int):∀fr,(bz pts fr es).length<=es.length/\∀c∈bz pts fr es,c.length<=pts.length/\∀p∈c,p∈pts:=by
 induction es with
 |nil=>intro fr;simp[bz]
 |cons e es ih=>
  intro fr;rw[bz];split
  ·simp
  obtain⟨h1,h2⟩:=ih (e.toNat+1);refine⟨by simp only[lc];omega,fun c hc=> ?_⟩;rw[abd] at hc;rcases hc with rfl|hc
  ·refine⟨?_,fun p hp=>List.mem_of_mem_take (List.mem_of_mem_drop hp)⟩;rw[abG,abl];omega
  exact h2 c hc
theorem Hr {gs:List Zy}(hn:∀g∈gs,nameB g.name=true)(all:Bool){g:Zy}(h:OkG gs.length g)(hs:SmG g):Lk (jY gs all g) 10610:=by
 unfold jY;have e:10610=133+(2*430+(1*133+(5*166+(40*166+2014)))):=rfl;rw[e];obtain⟨c1,c2⟩:=Fq g.points g.ends 0;refine .cons (Lk.line (n:=4) (.cons (by decide) (.cons (nt (oI h.name) (by decide)) (.cons (n32 h.Z5) ?_))) ?_) (.app (.map (fun c hc=> ?_) (nt c1 hs.ends)) (.app (.map (fun p hp=> ?_) hs.parts) (.app (.map (fun a ha=> ?_) hs.anch) (.app (.map (fun d hd=> ?_) hs.aax) ?_))))
 ·split
  ·exact .cons (by decide) .nil
  exact .nil
 ·unfold yR;simp only[lc];split<;>simp
 ·obtain⟨d1,d2⟩:=c2 c hc;exact Lk.line (n:=13) (.cons (by decide) (.map fun p hp=>OC (h.pts p (d2 p hp)))) (by unfold yf;rw[lc,aa7];have:=hs.pts;omega)
 ·have:=h.parts p hp;exact Lk.line (n:=4) (.cons (by decide) (.cons (pX hn this.1) (.cons (n32 this.2.1) (.cons (n32 this.2.2) .nil)))) (by simp[qh])
 ·have:=h.anch a ha;exact Lk.line (n:=5) (.cons (by decide) (.cons (nt (rW _ 9 Ef (by decide) _) (by decide)) (.cons (n32 this.2.2.1) (.cons (n32 this.2.2.2.1) (.cons (n32 this.2.2.2.2) .nil))))) (by simp[pI])
 ·have:=h.aax d hd;exact Lk.line (n:=5) (.cons (by decide) (.cons (n32 this.1) (.cons (n32 this.2.1) (.cons (n32 this.2.2.1) (.cons (n32 this.2.2.2) .nil))))) (by simp[pW])
 split
 ·exact BG h.hint hs.hint (by decide)
 exact .nil _
theorem Qq {gs:List Zy}(hn:∀g∈gs,nameB g.name=true){ws:List (List Int)->List B}(hw:∀l,(∀s∈l,∀n∈s,In gs.length n)->(∀s∈l,s.length<=4)->l.length<=3->W32 (ws l)/\(ws l).length<=18){kind:Int}{r:Z8}(h:OkR gs.length kind r)(hs:SmR r):
  Lk [bn::(ws r.back++[47]::ws r.in'++[47]::ws r.ahead++[62]::outW gs kind r)] 2047:=by
 obtain⟨a1,a2⟩:=hw r.back (fun s hs=>(h.back s hs).2) hs.sets.1 hs.rows.1;obtain⟨b1,b2⟩:=hw r.in' (fun s hs=>(h.in' s hs).2) hs.sets.2.1 hs.rows.2.1;obtain⟨c1,c2⟩:=hw r.ahead (fun s hs=>(h.ahead s hs).2) hs.sets.2.2 hs.rows.2.2;have ho:W32 (outW gs kind r)/\(outW gs kind r).length<=4:=by
  unfold outW;split
  ·exact⟨.map fun n hn'=>pX hn (h.out n hn'),by rw[aa7];exact hs.outs.1⟩
  split
  ·exact⟨.map fun c hc=>Iw (h.calls c hc),by rw[aa7];have:=hs.outs.2;omega⟩
  split
  ·exact⟨.cons (n32 h.x) .nil,by simp⟩
  exact⟨.nil,by simp⟩
 refine Lk.line (n:=62) (.cons (by decide) ((((a1.app (.cons (by decide) b1)).app (.cons (by decide) c1))).app (.cons (by decide) ho.1))) ?_;simp only[lc,la];omega
theorem Gx {gs:List Zy}(hn:∀g∈gs,nameB g.name=true){ws:List (List Int)->List B}(hw:∀l,(∀s∈l,∀n∈s,In gs.length n)->(∀s∈l,s.length<=4)->l.length<=3->W32 (ws l)/\(ws l).length<=18){l:Lookup}
  (h:∀r∈l.rules,OkR gs.length l.kind r) (hs:l.rules.length<=3/\∀r∈l.rules,SmR r):Lk (oN gs ws l) 6241:=by
 unfold oN;have e:6241=100+3*2047:=rfl;rw[e];refine .cons (Lk.line (n:=3) (.cons (by decide) (.cons (nt (rW _ 9 Hg (by decide) _) (by decide)) ?_)) ?_) (.map (fun r hr=>Qq hn hw (h r hr) (hs.2 r hr)) hs.1)
 ·split
  ·exact .cons (by decide) .nil
  exact .nil
 unfold yT;simp only[lc];split<;>simp
theorem Lj {gs:List Zy}(hn:∀g∈gs,nameB g.name=true)(l:List (List Int))(h:∀s∈l,∀n∈s,In gs.length n)(h4:∀s∈l,s.length<=4)(h3:l.length<=3):W32 (aQ gs l)/\(aQ gs l).length<=18:=by
 unfold aQ;refine⟨.flat fun s hs=> ?_,mY l _ 6 3 (fun s hs=> ?_) h3⟩
 ·unfold setW;split
  ·exact .cons (pX hn (h _ hs _ (by simp))) .nil
  exact(W32.cons (by decide) (.map fun n hn'=>pX hn (h s hs n hn'))).app (.cons (by decide) .nil)
 have:=h4 s hs;unfold setW;split
 ·simp
 simp only[abh,lc,la,aa7,ln];omega
section
variable {f:Fnt} (h:aav f) (hs:SmF f)
include h in
theorem jZ:∀g∈f.Zt,nameB g.name=true:=fun g hg=>(h.Zt g hg).name
include h hs in
theorem KA:Lk (f.ZA.map mM) 332:= .mono (.map (k:=166) (n:=2) (fun a ha=>by
 have:=h.ZA a ha;exact Lk.line (n:=5) (.cons (by decide) (.cons (nt (oI this.1) (by decide)) (.cons (n32 this.2.1) (.cons (n32 this.2.2.1) (.cons (n32 this.2.2.2) .nil))))) (by simp[mM])) hs.ZA) (by decide)
include h hs in
theorem KH:Lk (f.regions.map oQ) 696:= .mono (.map (k:=232) (n:=3) (fun r hr=>by
 have:=h.regs r hr;refine Lk.line (n:=7) (.cons (by decide) (.flat fun t ht=> .cons (n32 (this t ht).1) (.cons (n32 (this t ht).2.1) (.cons (n32 (this t ht).2.2) .nil)))) ?_;have:=mY r.ZU eP 3 2 (fun t _=>by simp[eP]) (hs.regs.2 r hr);unfold oQ;rw[lc];omega) hs.regs.1) (by decide)
include h hs in
theorem IL:Lk (f.funcs.map wS) 4028:= .mono (.map (k:=2014) (n:=2) (fun p hp=>BG (h.funcs p hp) (hs.funcs.2 p hp) (by decide)) hs.funcs.1) (by decide)
include h hs in
theorem Ei (all:Bool):Lk (f.Zt.flatMap (jY f.Zt all)) 106100:= .mono (.flat (k:=10610) (n:=10) (fun g hg=>Hr (jZ h) all (h.Zt g hg) (hs.Zt.2 g hg)) hs.Zt.1) (by decide)
include h hs in
theorem Ik:Lk (f.chars.map (mX f.Zt)) 1600:= .mono (.map (k:=100) (n:=16) (fun c hc=>Lk.line (n:=3) (.cons (by decide) (.cons (n32 (h.chars c hc).1) (.cons (pX (jZ h) (h.chars c hc).2) .nil))) (by simp[mX])) hs.chars) (by decide)
include h hs in
theorem Hf:Lk (f.features.map ql) 2120:= .mono (.map (k:=265) (n:=8) (fun x hx=>Lk.line (n:=8) (.cons (by decide) (.cons (nt (oI (h.aal x hx).1) (by decide)) (.it (h.aal x hx).2))) (by
 have:=hs.aal.2 x hx;simp only[ql,lc,aa7];omega)) hs.aal.1) (by decide)
include h in
theorem LU:Lk [[dO,af f.unit]] 67:=Lk.line (n:=2) (.cons (by decide) (.cons (n32 h.unit) .nil)) (by simp)
include h hs in
theorem yS:(fC f).length<=160000:=by
 have key:Lk (kz f) 160000:=by
  unfold kz;have hl:Lk (f.Zu.flatMap (oN f.Zt (aQ f.Zt))) 37446:= .mono (.flat (k:=6241) (n:=6) (fun l hl=>Gx (jZ h) (Lj (jZ h)) (h.Zu l hl).2.2 (hs.Zu.2 l hl)) hs.Zu.1) (by decide);have hc:Lk (if f.ZB.isEmpty then [] else [fH::f.ZB.map af]) 133:=by
   split
   ·exact .nil _
   exact Lk.line (n:=4) (.cons (by decide) (.it h.ZB)) (by have:=hs.ZB;simp only[lc,aa7];omega)
  exact .mono ((LU h).app ((KA h hs).app ((KH h hs).app (hc.app ((IL h hs).app ((Ei h hs false).app ((Ik h hs).app (hl.app (Hf h hs))))))))) (by decide)
 rw[<-uk];exact key
end
end
section
open Go.RowKit
def hdB (l:List B):B:=l.headD []
def dS {α:Type}(l:List α):Nat:=if l.isEmpty then 0 else 1
def iJ (g:Zy):List B:=[bP]++List.replicate g.ends.length bI++List.replicate g.parts.length gW++List.replicate g.anchors.length dV++List.replicate g.deltas.length gy++List.replicate (dS g.hint) iH
def jk (l:Lookup):List B:=[dB]++List.replicate l.rules.length bn
def nJ (f:Fnt):List B:=[dO]++List.replicate f.ZA.length iE++List.replicate f.regions.length dH++List.replicate (dS f.ZB) fH++List.replicate f.funcs.length iW++f.Zt.flatMap iJ++List.replicate f.chars.length kC++f.Zu.flatMap jk++List.replicate f.features.length dY
theorem gI {α:Type}(l:List α)(f:α->List B)(s:B)(h:∀x,hdB (f x)=s):(l.map f).map hdB=List.replicate l.length s:=by
 induction l with
 |nil=>rfl
 |cons a r ih=>rw[aba,aba,ih,h,lc,List.replicate_succ]
theorem Gf (pts:List Pt)(es:List Int):∀fr,iP fr es pts.length->(bz pts fr es).length=es.length:=by
 induction es with
 |nil=>intro fr _;rfl
 |cons e r ih=>intro fr h;obtain⟨h1,h2,h3⟩:=h;rw[bz,if_neg (by omega),lc,ih _ h3,lc]
theorem LQ (gs:List Zy)(g:Zy)(h:iP 0 g.ends g.points.length):(jY gs false g).map hdB=iJ g:=by
 have e:(if false|| !g.hint.isEmpty then [hiL g.hint] else []).map hdB=List.replicate (dS g.hint) iH:=by unfold dS;cases g.hint.isEmpty<;>rfl
 rw[jY,aba,abD,abD,abD,abD,e,gI _ yf bI (fun _=>rfl),gI _ (qh gs) gW (fun _=>rfl),gI _ pI dV (fun _=>rfl),gI _ pW gy (fun _=>rfl),Gf _ _ _ h];simp only[iJ,abe,List.singleton_append];rfl
theorem KJ (gs:List Zy)(ws:List (List Int)->List B)(l:Lookup):(oN gs ws l).map hdB=jk l:=by rw[oN,aba,gI _ _ bn (fun _=>rfl)];rfl
theorem zy {α:Type}(l:List α)(f:α->List (List B))(g:α->List B)(h:∀x∈l,(f x).map hdB=g x):(l.flatMap f).map hdB=l.flatMap g:=by
 induction l with
 |nil=>rfl
 |cons a r ih=>rw[abj,abD,ih (fun x hx=>h x (by simp[hx])),h a (by simp),abj]
theorem heads (f:Fnt)(h:aav f):(kz f).map hdB=nJ f:=by
 have e:(if f.ZB.isEmpty then [] else [fH::f.ZB.map af]).map hdB=List.replicate (dS f.ZB) fH:=by unfold dS;cases f.ZB.isEmpty<;>rfl
 rw[kz];simp only[abD,e,gI _ mM iE (fun _=>rfl),gI _ oQ dH (fun _=>rfl),gI _ wS iW (fun _=>rfl),gI _ (mX f.Zt) kC (fun _=>rfl),gI _ ql dY (fun _=>rfl),zy _ _ _ (fun g hg=>LQ f.Zt g (h.Zt g hg).ends),zy _ _ _ (fun l _=>KJ f.Zt (aQ f.Zt) l)];simp only[nJ,abe];rfl
theorem FZ (L:List (List B))(n i:Nat):(jA n L)[i]? =(L[i]?).map fun l=>num (n+i) (kZ 0 l):=by
 induction L generalizing n i with
 |nil=>simp[jA]
 |cons l ls ih=>
  cases i with
  |zero=>simp[jA]
  |succ i=>simp only[jA,abf,ih];rw[show n+1+i=n+(i+1) by omega]
theorem EM (L:List (List B))(n:Nat):(jA n L).length=L.length:=by
 induction L generalizing n with
 |nil=>rfl
 |cons l ls ih=>rw[jA,lc,ih,lc]
theorem Fe {f:Fnt}(h:aav f):(kJ (fC f)).length=(nJ f).length/\∀(i:Nat) (r:List Wd),(kJ (fC f))[i]? =some r->∃(s:B) (t:List Wd),r=((i:Int)+1,0,s)::t/\(nJ f)[i]? =some s:=by
 have hok:=(D6 h (DU h)).1;rw[<-uk,Gn _ hok,<-heads f h];refine⟨by rw[EM,aa7],fun i r hr=> ?_⟩;rw[FZ,Option.map_eq_some_iff] at hr;obtain⟨l,hl,rfl⟩:=hr;cases l with
 |nil=>exact absurd rfl (hok [] (aa8 hl)).1
 |cons s t=>refine⟨s,num (1+i) (kZ (0+s.length+1) t),?_,by rw[abt,hl];rfl⟩;rw[kZ,num,aba,<-num];simp only[abO,abM,and_true];exact⟨by push_cast;omega,rfl⟩
end
end Go.Proofs.YtkijckccfookeaaDoor
