/- Lemmas. -/
import Derived.Test.YtalehhjjbadlpaaGreatDoorX04
set_option linter.all false
set_option maxRecDepth 100000
set_option maxHeartbeats 32000000
namespace Go.Proofs.YtalehhjjbadlpaaGreatDoor
open Go.RowKit
variable{b e:Nat}{w a:World}{l m:List B}{u:Int}(W:World){v V:List (List B)}{j:Gl}{α:Type}{A:List hU}{x:Option Addr}{U:List Int}{n:List (List Int)}{o:List Value}{d:Array Value}{z:B}{k:iu}{t:TypeId}{c i:PS}{p:hU}
def lv (gl:Gl)(s:PS)(L:List (List B))(a:PS):Prop:=vb L/\∀n,stmts gl s (qW n L)=.ok a
theorem lv.nil (gl:Gl)(s:PS):lv gl s [] s:=⟨λl a=>by simp at a,λ_=>rfl⟩
theorem lv.cons {gl:Gl}{s c a:PS}{l:List B}{L:List (List B)}(b:l≠[]/\∀w∈l,dA w=true)(h:stmt gl s l=.ok c)(k:lv gl c L a):lv gl s (l::L) a:=by
 refine⟨λx hx=> ?_,λn=> ?_⟩
 .rw[lx]at hx;rcases hx with rfl|hx
  .exact b
  exact k.1 x hx
 rw[qW,stmts,h];exact k.2 _
theorem lv.app {gl:Gl}{s d c:PS}{a b:List (List B)}(h:lv gl s a d)(k:lv gl d b c):lv gl s (a++b) c:=by
 refine⟨λx hx=> ?_,λn=> ?_⟩
 .rw[jp]at hx;rcases hx with hx|hx
  .exact h.1 x hx
  exact k.1 x hx
 rw[DH,Gu,h.2 n];exact k.2 _
theorem lv.one {gl:Gl}(a:l≠[]/\∀w∈l,dA w=true)(h:stmt gl c l=.ok i):lv gl c [l] i:= .cons a h (.nil _ _)
theorem lv.xl {gl:Gl}(l:List α)(a:α->List (List B))(b:List α->PS)(h:∀done x rest,l=done++x::rest->lv gl (b done) (a x) (b (done++[x]))):lv gl (b []) (l.flatMap a) (b l):=by
 suffices c:∀rest done,l=done++rest->lv gl (b done) (rest.flatMap a) (b l)from c l [] rfl
 intro rest;induction rest with
 |nil=>intro done e;simp at e;subst e;exact .nil _ _
 |cons x r d=>intro done e;rw[nW];exact(h done x r e).app (d (done++[x]) (by simp[e]))
theorem lv.each {gl:Gl}(l:List α)(a:α->List B)(b:List α->PS)(c:∀x∈l,a x≠[]/\∀w∈a x,dA w=true)(h:∀done x rest,l=done++x::rest->stmt gl (b done) (a x)=.ok (b (done++[x]))):lv gl (b []) (l.map a) (b l):=by
 have e:l.map a=l.flatMap (λx=>[a x]):=by
  clear c h;induction l with
  |nil=>rfl
  |cons x r f=>simp[f]
 rw[e];exact lv.xl l _ b λdone x rest d=> .one (c x (by simp[d])) (h done x rest d)
def Eo (a:mT):List B:=[wZ,a.gn,ag a.km,ag a.kA,ag a.kv]
def Gj (r:Region):List B:=kY::r.kB.flatMap lK
def RP (p:List Ins):List B:=sH::p.map dO
def Et (a:List hU)(c:nD):List B:=[xe,ag c.jN,dK a c.z]
def Jd (x:mS):List B:=kH::x.gn::x.ge.map ag
def Tt (l:gH):List B:=iW::pick aH l.gd::if l.nj then [fO]else []
def V8 (c:List Pt):List B:=ik::c.map jZ
def Jk (a:List hU)(p:Part):List B:=[sJ,dK a p.z,ag p.x,ag p.y]
def Jb (a:ml):List B:=[lY,pick anchorNames a.gd,ag a.ia,ag a.x,ag a.y]
def Jc (d:Delta):List B:=[pO,ag d.region,ag d.ii,ag d.x,ag d.y]
def uE (h:List Ins):List B:=qG::h.map dO
def Sm (g:hU):List B:=fB::g.gn::ag g.gL::if g.i6 then [jo]else []
theorem jE (b:dA z=true)(c:∀w∈l,dA w=true):z::l≠[]/\∀w∈z::l,dA w=true:=
 ⟨by simp,λw hw=>by
  rw[lx]at hw;rcases hw with rfl|hw
  .exact b
  exact c w hw⟩
theorem OD (l:List Int):∀w∈l.map ag,dA w=true:=λw a=>by
 rw[mN]at a;obtain⟨n,-,rfl⟩:=a;exact vw n
section
variable {gl:Gl} {s:PS}
theorem SO {a:mT}(h:hZ a.gn=true/\N9 a.km/\N9 a.kA/\N9 a.kv):stmt gl s (Eo a)=.ok {s with f:= {s.f with gM:=s.f.gM++[a]}} :=by obtain⟨e,b,c,d⟩:=h;rw[Eo,Xj,Bc,JA e,iQ _ b,iQ _ c,iQ _ d,(fJ _ b).2,(fJ _ c).2,(fJ _ d).2];rfl
theorem RE {a:mT}(h:hZ a.gn=true):Eo a≠[]/\∀w∈Eo a,dA w=true:=by
 refine⟨by simp[Eo],λw b=> ?_⟩;simp only[Eo,lx,qp,or_false]at b;rcases b with rfl|rfl|rfl|rfl|rfl
 .decide
 .exact sW h
 all_goals exact vw _
theorem PR (l:List mC):l.flatMap lK=(l.flatMap λt=>[t.start,t.jx,t.jz]).map ag:=by
 induction l with
 |nil=>rfl
 |cons t r a=>simp[lK,a]
theorem Zy (l:List mC):dX (l.flatMap λt=>[t.start,t.jx,t.jz])=l:=by
 induction l with
 |nil=>rfl
 |cons t r a=>simp[dX,a]
theorem Vw (l:List mC):(l.flatMap λt=>[t.start,t.jx,t.jz]).length=3*l.length:=by
 induction l with
 |nil=>rfl
 |cons t r a=>simp only[nW,la,a,aV,ln];omega
theorem R' {r:Region}(h:∀t∈r.kB,N9 t.start/\N9 t.jx/\N9 t.jz):stmt gl s (Gj r)=.ok {s with f:= {s.f with d':=s.f.d'++[r]}} :=by
 have a:∀n∈r.kB.flatMap λt=>[t.start,t.jx,t.jz],N9 n:=λn a=>by
  rw[rz]at a;obtain⟨t,b,a⟩:=a;obtain⟨c,d,e⟩:=h t b;simp only[lx,qp,or_false]at a;rcases a with rfl|rfl|rfl<;>assumption
 rw[Gj,PM,ui,PR,lE,Vw,if_neg (by omega),zn _ a,JM _ a,Zy];rfl
theorem Sq (r:Region):Gj r≠[]/\∀w∈Gj r,dA w=true:=by rw[Gj,PR];exact jE (by decide) (OD _)
theorem SZ {l:List Int}(h:∀n∈l,N9 n):stmt gl s (oO::l.map ag)=.ok {s with f:= {s.f with gP:=s.f.gP++l}} :=by rw[zE,Ui,zn _ h,JM _ h];rfl
theorem Tb {p:List Ins}(h:nI p):stmt gl s (RP p)=.ok {s with f:= {s.f with fY:=s.f.fY++[p]}} :=by obtain⟨a,b,c,-⟩:=Gm p h 0;rw[RP,Xl,Bf,c,a,b];rfl
theorem SU {e:List hU}(a:nu gl e){c:nD}(h:N9 c.jN/\In e.length c.z):stmt gl s (Et e c)=.ok {s with f:= {s.f with f6:=s.f.f6++[c]}} :=by obtain⟨b,d⟩:=h;rw[Et,Xk,Be,iQ _ b,(EZ a d 0).1,(fJ _ b).2,(EZ a d 0).2];rfl
theorem RK {d:List hU}(b:nu gl d){c:nD}(h:In d.length c.z):Et d c≠[]/\∀w∈Et d c,dA w=true:=by
 refine⟨by simp[Et],λw a=> ?_⟩;simp only[Et,lx,qp,or_false]at a;rcases a with rfl|rfl|rfl
 .decide
 .exact vw _
 exact sW (Dp b h).2
theorem Te {x:mS}(h:hZ x.gn=true/\∀n∈x.ge,N9 n):stmt gl s (Jd x)=.ok {s with f:= {s.f with a':=s.f.a'++[x]}} :=by obtain⟨b,a⟩:=h;rw[Jd,MN,tq,JA b,zn _ a,JM _ a];rfl
theorem Sh {x:mS}(h:hZ x.gn=true):Jd x≠[]/\∀w∈Jd x,dA w=true:=jE (by decide) (jE (sW h) (OD _)).2
theorem WW {p:List Ins}(h:nI p){a:B}(b:dA a=true):a::p.map dO≠[]/\∀w∈a::p.map dO,dA w=true:=jE b (Gm p h 0).2.2.2
theorem R8 {l:gH}(h:1<=l.gd/\l.gd<=8):stmt gl s (Tt l)=.ok {s with f:= {s.f with ge:=s.f.ge++[⟨l.gd,l.nj,[]⟩]}} :=by obtain⟨a,-⟩:=Py l.gd h.1 h.2;rw[Tt,PL];cases hi:l.nj<;>simp only[jB,if_true,if_false,Bool.false_eq_true,true_or,or_true,a,List.cons_ne_nil]<;>rw[if_neg (by omega)]<;>rfl
theorem Sn {l:gH}(h:1<=l.gd/\l.gd<=8):Tt l≠[]/\∀w∈Tt l,dA w=true:=by
 refine jE (by decide) (jE (Py l.gd h.1 h.2).2 λw a=> ?_).2;split at a
 .simp only[js]at a;subst a;decide
 simp at a
end
def tE (s:PS)(init:List gH)(l:gH):PS:= {s with f:= {s.f with ge:=init++[l]}}
theorem YQ (s:PS)(init:List gH)(l:gH)(h:gH->gH):nY (tE s init l) h=tE s init (h l):=by simp[nY,tE]
theorem Vz (i:nu j A)(m:A.length<=1000)(s:PS)(l:gH)(c:1<=l.gd/\l.gd<=8)(gl:∀r∈l.gC,qw A.length l.gd r)(z:List (List Int)->List B)(hw:∀x:List (List Int),(∀y∈x,∀n∈y,In A.length n)->G7 A (z x) x/\∀w∈z x,dA w=true):
  lv j s (Tt l::l.gC.map (λr=>ku::(z r.gE++[47]::z r.ij++[47]::z r.ahead++[62]::j' A l.gd r))) {s with f:= {s.f with ge:=s.f.ge++[l]}} :=by
 refine lv.cons (Sn c) (R8 c) ?_;have h:=lv.each (gl:=j) l.gC (λr=>ku::(z r.gE++[47]::z r.ij++[47]::z r.ahead++[62]::j' A l.gd r)) (λd=>tE s s.f.ge ⟨l.gd,l.nj,d⟩) (λr o=> ?_) (λdone r k e=> ?_)
 .have e:tE s s.f.ge ⟨l.gd,l.nj,l.gC⟩= {s with f:= {s.f with ge:=s.f.ge++[l]}} :=rfl;rw[<-e];exact h
 .have b:=gl r o;obtain⟨t,p⟩:=hw r.gE λy a=>(b.gE y a).2
  obtain⟨u,q⟩:=hw r.ij λy a=>(b.ij y a).2
  obtain⟨v,c2⟩:=hw r.ahead λy a=>(b.ahead y a).2
  refine jE (by decide) λw hw=> ?_
  simp only[nw,mL,jp,lx]at hw;rcases hw with hw|rfl|hw|rfl|hw|rfl|hw
  .exact p w hw
  .decide
  .exact q w hw
  .decide
  .exact c2 w hw
  .decide
  exact(NY i _ r b w hw).2.2
 have b:=gl r (by simp[e]);rw[Xo,FI i m _ ⟨l.gd,l.nj,done⟩ (by simp[tE]) c r b _ _ _ (hw r.gE λy a=>(b.gE y a).2).1 (hw r.ij λy a=>(b.ij y a).2).1 (hw r.ahead λy a=>(b.ahead y a).2).1,YQ]
def qL (s:PS)(init:List hU)(g:hU):PS:= {s with f:= {s.f with ga:=init++[g]}}
theorem vH (s:PS)(init:List hU)(g:hU)(h:hU->hU):vG (qL s init g) h=qL s init (h g):=by simp[vG,qL]
theorem Ff (s:PS)(init:List hU)(g:hU):(qL s init g).f.ga≠[]:=by simp[qL]
section
variable {gl:Gl} {s:PS} {init:List hU} {g:hU}
theorem R9 {e:List hU}(a:nu gl e){p:Part}(h:In e.length p.z/\N9 p.x/\N9 p.y):stmt gl (qL s init g) (Jk e p)=.ok (qL s init {g with gi:=g.gi++[p]}):=by obtain⟨b,c,d⟩:=h;rw[Jk,Xn,wY,if_neg (Ff _ _ _)];simp only[(EZ a b 0).1,(EZ a b 0).2,iQ _ c,iQ _ d,(fJ _ c).2,(fJ _ d).2,vH];rfl
theorem So {c:List hU}(b:nu gl c){p:Part}(h:In c.length p.z):Jk c p≠[]/\∀w∈Jk c p,dA w=true:=by
 refine⟨by simp[Jk],λw a=> ?_⟩;simp only[Jk,lx,qp,or_false]at a;rcases a with rfl|rfl|rfl|rfl
 .decide
 .exact sW (Dp b h).2
 all_goals exact vw _
theorem SM {a:ml}(h:1<=a.gd/\a.gd<=4/\N9 a.ia/\N9 a.x/\N9 a.y):stmt gl (qL s init g) (Jb a)=.ok (qL s init {g with gh:=g.gh++[a]}):=by
 obtain⟨e,f,b,c,d⟩:=h;obtain⟨i,-⟩:=Pv a.gd e f;have j:∀n∈[a.ia,a.x,a.y],N9 n:=by simp[b,c,d]
 have he:=zn [a.ia,a.x,a.y] j 0;rw[Jb,PK,lX,if_neg (Ff _ _ _)];simp only[lP,p9]at he;simp only[i,he,(fJ _ b).2,(fJ _ c).2,(fJ _ d).2,vH];rw[if_neg (by omega)];rfl
theorem RC {a:ml}(h:1<=a.gd/\a.gd<=4):Jb a≠[]/\∀w∈Jb a,dA w=true:=by
 refine⟨by simp[Jb],λw b=> ?_⟩;simp only[Jb,lx,qp,or_false]at b;rcases b with rfl|rfl|rfl|rfl|rfl
 .decide
 .exact(Pv a.gd h.1 h.2).2
 all_goals exact vw _
theorem Ta {d:Delta}(h:N9 d.region/\N9 d.ii/\N9 d.x/\N9 d.y):stmt gl (qL s init g) (Jc d)=.ok (qL s init {g with gx:=g.gx++[d]}):=by
 obtain⟨a,b,c,e⟩:=h;have f:∀n∈[d.region,d.ii,d.x,d.y],N9 n:=by simp[a,b,c,e]
 have he:=zn [d.region,d.ii,d.x,d.y] f 0;rw[Jc,UH,rV,if_neg (Ff _ _ _)];simp only[lP,p9]at he;simp only[he,(fJ _ a).2,(fJ _ b).2,(fJ _ c).2,(fJ _ e).2,vH];rfl
theorem Sg (d:Delta):Jc d≠[]/\∀w∈Jc d,dA w=true:=by
 refine⟨by simp[Jc],λw a=> ?_⟩;simp only[Jc,lx,qp,or_false]at a;rcases a with rfl|rfl|rfl|rfl|rfl
 .decide
 all_goals exact vw _
theorem R7 {h:List Ins}(a:nI h):stmt gl (qL s init g) (uE h)=.ok (qL s init {g with gR:=g.gR++h}):=by obtain⟨b,c,d,-⟩:=Gm h a 0;rw[uE,Xm,wX,if_neg (Ff _ _ _),d,b,c,vH];rfl
theorem SW {c:List Pt}(b:∀p∈c,N9 p.x/\N9 p.y)(a:c≠[]):stmt gl (qL s init g) (V8 c)=.ok (qL s init {g with gk:=g.gk++c,gO:=g.gO++[((g.gk.length+c.length:Nat):Int) - 1]}):=by
 obtain⟨d,e,f,-⟩:=Ut c b 0;have h:¬(c.map jZ=[]\/(c.map jZ).all og=false):=by rw[f];simp[a]
 rw[V8,MM,kG,if_neg (Ff _ _ _),if_neg h,d,e,vH,lE];rfl
theorem Zn (b:List Pt)(j:∀p∈b,N9 p.x/\N9 p.y)(h:List Int)(c:Nat)(done:List Int)(k:c<=b.length)(he:jM c h b.length)(n:B)(a:Int)(m:Bool):
  lv gl (qL s init ⟨n,a,m,b.take c,done,[],[],[],[]⟩) ((fV b c h).map V8) (qL s init ⟨n,a,m,b,done++h,[],[],[],[]⟩):=by
 induction h generalizing c done with
 |nil=>simp only[jM]at he;subst he;rw[lf,pp];exact .nil _ _
 |cons e h l=>
  obtain⟨v,w,o⟩:=he;have f:∀p∈(b.take (e.toNat+1)).drop c,N9 p.x/\N9 p.y:=λp q=>j p (List.mem_of_mem_take (List.mem_of_mem_drop q))
  have d:((b.take (e.toNat+1)).drop c).length=e.toNat+1 - c:=by rw[tw,ot];omega
  have i:(b.take (e.toNat+1)).drop c≠[]:=λr=>by
   rw[r]at d;simp only[ln]at d;omega
  rw[fV,if_neg (by omega),lP];refine .cons (jE (by decide) (Ut _ f 0).2.2.2) (SW f i) ?_;have t:b.take c++(b.take (e.toNat+1)).drop c=b.take (e.toNat+1):=by have:=rA c (b.take (e.toNat+1));rw[List.take_take,Nat.min_eq_left (by omega)]at this;exact this
  have u:(((b.take c).length+((b.take (e.toNat+1)).drop c).length:Nat):Int) - 1=e:=by rw[d,ot];omega
  have:=l (e.toNat+1) (done++[e]) (by omega) o;simp only[t,u];simpa using this
end
theorem KY (t:B)(h:∀(j:Nat) (s:B),opNames[j]?=some s->s≠t):vI t=0:=by rw[vI,if_neg];intro a;obtain⟨j,b⟩:=pn.1 a;exact h j t b rfl
theorem Ss (t:B)(k:Nat)(h:opNames[k]?=some t)(a:∀(j:Nat) (s:B),j<k->opNames[j]?=some s->s≠t):vI t=(k:Int)+1:=by
 rw[vI,if_pos (kj h)];have:opNames.findIdx (· ==t)=k:=by rw[List.findIdx_eq (ll.1 h).1];obtain⟨d,b⟩:=ll.1 h;refine⟨by simp[b],λj c=> ?_⟩;have:=a j opNames[j] c (jO (by omega));simpa using this
 rw[this]
theorem Cc:opNames.length=39:=by decide
theorem U6 (k:Nat)(s:B)(h:opNames[k]?=some s)(w:World):(Instr.index 125 (.agg (strs opNames).toArray) (.int .i64 (k:Int))).run Tryz.prog w=.ok (.string s) w:=by
 have d:k<39:=by have:=(ll.1 h).1;rw[Cc]at this;exact this
 have c:=lO h;have a:(k:Int)<39:=by omega
 have b:(0:Int)<=k:=by omega
 simp[Instr.index,go_sem,a,b,c];omega
theorem Zu:(strs opNames).toArray.size=39:=by simp[zS,Cc]
theorem YU (t:B)(u:nF W 5 (strs opNames)):Calls Tryz.prog 137 #[.string t] W λe v=>e=.returned (.tuple #[.int .i64 (vI t),.bool (vI t !=0)])/\W=v:=by
 obtain⟨x,y,z⟩:=u;have m:=J U6;have f:=Zu;have a:Hid (∀k:Nat,(∀j s,j<k->opNames[j]?=some s->s≠t)->((opNames[k]?=some t->vI t=(k:Int)+1)/\(39<=k->vI t=0))):=λk d=>by
  refine⟨λh=>Ss t k h d,λA=>KY t λj s l=>d j s ?_ l⟩;have:=(ll.1 l).1;rw[Cc]at this;omega
 generalize (strs opNames).toArray=q at*
 have C:=J (show(Tryz.prog.info? 125).map (·.size)=some q.size by rw[f];kernel_rfl);clear f;go_enter Tryz.func137,Tryz.ntmps137
 go_wp2_with (refine wpList_load_row rfl 125 (.global 5) rfl 5 rfl x q y _ z Tryz.underlying125 rfl C ?_)
 go_loop [7] (λi=>∃k:Nat,k<=39/\i=.int .i64 k/\Hid (∀j s,j<k->opNames[j]?=some s->s≠t)) (λi=>39 - (intOf i).toNat)
 case atStart=>exact⟨0,by omega,rfl,λj s l=>by omega⟩
 case round=>
  obtain⟨k,A,rfl,d⟩:=hrel;by_cases n:k<39
  .obtain⟨s,g⟩:∃s,opNames[k]?=some s:=⟨_,jO (by rw[Cc];exact n)⟩
   have r:=m k s g;by_cases he:s=t
   .have b:=J ((a k d).1 (by rw[g,he]));have D:(s==t)=true:=by simp[he]
    clear g he;go_wp2
    go_ret2
    rw[b.out];refine⟨?_,rfl⟩;have:(((k:Int)+1) !=0)=true:=by simp;omega
    rw[this];rfl
   have o:Hid (∀j s,j<k+1->opNames[j]?=some s->s≠t):=λj E l c=>by
    by_cases p:j=k
    .subst p;rw[g]at c;cases c;exact he
    exact d j E (by omega) c
   have D:(s==t)=false:=by simpa using he
   clear g he;go_wp2
   go_round
   case rel=>exact⟨k+1,by omega,by simp,o⟩
   case measure=>simp[intOf];omega
  have b:=J ((a k d).2 (by omega));go_wp2
  go_ret2
  rw[b.out];exact⟨rfl,rfl⟩
section
open Go.Sort
theorem PO {L:Array Oper}{o:Oper}{a:Act}{K:Act->World->Prop}{Q:Exit->Act->World->Prop}{E:Prop}(l:o.guard=none)(s x:Operand)
  (v:o.op=.call {callee:= .builtin .append,args:= #[s,x],argTypes:= #[43,43]})
  (b:World) (d:Nat) (w:b.heap.size=d) (I n c m:Nat) (A:Option Addr) (M:List Value) (us:List B) (y:us.length=m) (z:a.eval s= A n c) (C:a.eval x=.slice (d,0) m m)
  (e:b.ownsRow I 9 1 (A n c) n M) (F:n+m<=1000000000000) (G:I<=b)
  (h:∀j k w',w'.ownsRow I 9 1 (.slice j (n+m) k) (n+m) (M++strs us)->b.grownBy w' (Value.slice A n c).ownBlock->K (a.put o.dst (.slice j (n+m) k)) w'):
  if Region.wanted o (yielded L a.tmps)=true then Oper.wp Tryz.prog o a (b.alloc (.cells (strs us).toArray 9)) K Q else E:=by
 subst w;subst y;obtain⟨D,p,q,r,t⟩:=info_parts Ic;refine mY _ l s x 43 v I 9 D _ 1 16 Tryz.underlying43 p q r t rfl (by decide) (A n c) n M z (e.alloc _) (b.heap.size+1) (b,0) us.length us.length (strs us) C (Rd.newAt _ _ rfl (strs us).toArray 9 us.length 1 (by simp[zS])) (J3 us) (by simp only[maxLen];omega) (by omega) (by simp;omega) ?_;intro H w' f g _;obtain⟨j,k,rfl⟩:=DK f;refine h j k w' f ⟨g.os,g.tape,g.output,nt (by simp) g.size,λi hi u=> ?_⟩;exact(g.block i (by simp;omega) u).trans (Below.heap_alloc _ _ _ hi)
theorem iN.drew (h:iN w):iN w.drew:=⟨h.ops,h.M,h.kinds,h.pow⟩
theorem lC {w':World}(h:Below w.drew.heap.size w.drew w'):Below w w w':=⟨h.os,h.tape,h.output,h.size,h.block⟩
theorem bt {c:World}(h:Below a a w)(k:Below w w c):Below a a c:=h.trans (k.mono h.size)
theorem uI {w':World}{row:Option Nat}(d:w.grownBy w' row){v:Value}(h:w.cell? (b,e)=some v)(c:some b≠row):w'.cell? (b,e)=some v:=(World.cell?_of_block (a:=(b,e)) (d.block b (World.block_lt_of_cell? w _ h) c)).trans h
theorem J4 (l:List mC):(l.flatMap lK).length=l.length*3:=by
 induction l with
 |nil=>rfl
 |cons x l a=>simp only[nW,la,a,lK,aV,ln];omega
theorem Pr.below {w w':World}{k g:Nat}{b:Nat->Value}{a:B}(h:Pr w k g b a)(c:Below w w w'):Pr w' k g b a:=by obtain⟨e,v,f,d,i,j⟩:=h;exact⟨e,v,f,(c.block g (Bk.lt d)).trans d,i,gj j c⟩
theorem vJ {n c:Nat}{ws:List B}(h:w.ownsRow b 9 1 (x n c) n (strs ws)):Sl rt 1 w (FT w) x ws:=Sl.U h (Xq _ _ _) (λ_ _ a=>Hy a (by decide) (by decide)) (by decide)
theorem Fw (Bd g:Nat)(N:Nat->Value)(p:B)(A:Option Addr)(c:Nat)(l:List mC)(hT:iN W)(hp:Pr W Bd g N p)(O:Bd<=W)(hA:Sl oT 3 W (FT W) A l)(hl:l.length<=10000000000)(t:p.length+(aJ kY (l.flatMap lK)).length<=1000000000000):
  Calls Tryz.prog 21 #[.pointer (g,0),.agg #[A l.length c]] W λe u=>e=.returned (.tuple #[])/\Pr u Bd g N (p++aJ kY (l.flatMap lK))/\KP W u/\Below Bd W u:=by
 have P:=Nat.le_of_eq (J4 l);go_enter Tryz.func21,Tryz.ntmps21
 go_wp2;go_loopw [4,10] (λv i wr=>∃k:Nat,k<=l.length/\i=.int .i64 k/\nv W ((l.take k).flatMap lK) v wr) (λ_ i _=>l.length - (intOf i).toNat)
 case atStart=>exact⟨0,nz _,rfl,none,0,rfl,⟨rfl,.inl ⟨rfl,rfl⟩⟩,(gD _ _).alloc (ae _) _⟩
 case round=>
  obtain⟨k,hk,rfl,ad,c3,rfl,f,d⟩:=hrel;have y:=J4 (l.take k);rw[ot,Nat.min_eq_left hk]at y;by_cases Q:k<l.length
  .obtain⟨b,o,x,rfl,-,Z,q0,q1,q2,r0,r1,r2⟩:=((KP.below d).sl oT.ok hA).xo Q;have HS:=J (cO lK l k x Z);generalize z:(l.take k).flatMap lK=n at*
   have s0:=d.size;have R:pT W n n.length ad c3 wr:=⟨rfl,f,d⟩
   have aa:n.length<=100000000000:=by omega
   have Yt:n.length+3<=1000000000000:=by omega
   obtain⟨G,H,I⟩:=x;dsimp only at q0 q1 q2 r0 r1 r2;have S:=hT.all d;clear Z z y;have C:Hid (some wr.heap.size≠(Value.slice ad n.length c3).ownBlock):=λe=>by have:=(f.lt _ e.symm).2;omega
   go_wp2_with fail
   obtain⟨F,h⟩:∃F,wr.alloc (.cells #[G,H,I] 77)=F:=⟨_,rfl⟩
   rw[h];have q:Below wr.heap.size wr F:=by rw[<-h];exact(gD _ _).alloc (ae _) _
   have D:=S.all q;have K:F.cell? ⟨wr.heap.size,0,none⟩=some (.int .i64 G):=by rw[<-h];simp[go_sem]
   have L:F.cell? ⟨wr.heap.size,1,none⟩=some (.int .i64 H):=by rw[<-h];simp[go_sem]
   have M:F.cell? ⟨wr.heap.size,2,none⟩=some (.int .i64 I):=by rw[<-h];simp[go_sem]
   have z0:=q.size;clear h q0 q1 q2
   go_region_held3 (λu=>u.cell? ⟨wr.heap.size,0,none⟩=some (.int .i64 G)/\u.cell? ⟨wr.heap.size,1,none⟩=some (.int .i64 H)/\u.cell? ⟨wr.heap.size,2,none⟩=some (.int .i64 I))
    (first
     |exact⟨uI r (ah a K) C,uI r (ah a L) C,uI r (ah a M) C⟩
     |exact⟨ah a K,ah a L,ah a M⟩
     |exact⟨ah j K,ah j L,ah j M⟩
     |exact⟨ah m K,ah m L,ah m M⟩
     |go_keep)
    (first
     |(go_at_call 20;refine(bi _ G D.drew r0).mono ?_;rintro e w1 ⟨rfl,T⟩;have m:=lC T)
     |(go_at_call 20;refine(bi _ H (D.all m) r1).mono ?_;rintro e w2 ⟨rfl,U⟩;have j:=bt m U)
     |(go_at_call 20;refine(bi _ I (D.all j) r2).mono ?_;rintro e w3 ⟨rfl,E⟩;have a:=bt j E;have z3:=a.size)
     |(refine PO (by rfl) (.tmp 14) (.tmp 24) (by rfl) w3 w3.heap.size rfl W.heap.size n.length c3 3 ad (strs n) [ag G,ag H,ag I] rfl (by go_simp) (by go_simp) (gj f (bt q a)) Yt (nt s0 (nt z0 z3)) ?_;intro A4 c4 w4 bW r))
   have Jg:=R.next (bt q a) bW r;go_wp2;go_roundw
   case rel=>exact⟨k+1,by omega,by simp,by rw[HS.out];exact Jg.s⟩
   case measure=>simp[intOf];omega
  obtain rfl:k=l.length:=by omega
  have HL:Hid ((l.take l.length).flatMap lK=l.flatMap lK):=by show _=_;rw[lf]
  rw[<-HL.out]at t P;generalize z:(l.take l.length).flatMap lK=n at*
  have E:=hp.below d;have V:=vJ f;have w:n.length<=1000000000000:=by omega
  clear z y;go_wp2_with (go_at_call 19;((with_reducible refine(Ie _ Bd g N p kY ad c3 n E V t w).mono ?_);rintro e w4 ⟨rfl,WJ,X,Y⟩))
  go_end0
  rw[<-HL.out];exact⟨rfl,WJ,(KP.below d).trans X,(d.mono O).trans Y⟩
end
theorem Sk (h:hZ p.gn=true):Sm p≠[]/\∀w∈Sm p,dA w=true:=by
 refine jE (by decide) (jE (sW h) (jE (vw _) λw a=> ?_).2).2;split at a
 .simp only[js]at a;subst a;decide
 simp at a
theorem Tg (h:hZ p.gn=true)(a:N9 p.gL)(b:j.lookup p.gn=some c.f.ga.length):
  stmt j c (Sm p)=.ok (qL c c.f.ga ⟨p.gn,p.gL,p.i6,[],[],[],[],[],[]⟩):=by
 have s:gX j p.gn=c.f.ga.length:=by rw[gX,b];rfl
 rw[Sm,UI];cases d:p.i6<;>simp[jv,JA h,iQ _ a,(fJ _ a).2,s,qL]
def zx (b:List hU)(a:Bool)(g:hU):List (List B):=Sm g::((fV g.gk 0 g.gO).map V8++(g.gi.map (Jk b)++(g.gh.map Jb++(g.gx.map Jc++if a|| !g.gR.isEmpty then [uE g.gR]else []))))
theorem Zq (v:nu j A)(i:Bool)(s:PS)(g:hU)(h:rl A.length g)(m:j.lookup g.gn=some s.f.ga.length):
  lv j s (zx A i g) (qL s s.f.ga g):=by
 refine .cons (Sk h.gn) (Tg h.gn h.oo m) ?_;have k:=Zn (gl:=j) (s:=s) (init:=s.f.ga) g.gk h.h g.gO 0 [] (nz _) h.gO g.gn g.gL g.i6;rw[List.take_zero,pG]at k;refine k.app ?_;have n:=lv.each (gl:=j) g.gi (Jk A) (λd=>qL s s.f.ga ⟨g.gn,g.gL,g.i6,g.gk,g.gO,d,[],[],[]⟩) (λp c=>So v (h.gi p c).1) (λdone p b e=>R9 v (h.gi p (by simp[e])));refine n.app ?_;have o:=lv.each (gl:=j) g.gh Jb (λd=>qL s s.f.ga ⟨g.gn,g.gL,g.i6,g.gk,g.gO,g.gi,d,[],[]⟩) (λp c=>RC ⟨(h.M p c).1,(h.M p c).2.1⟩) (λdone p b e=>SM (h.M p (by simp[e])));refine o.app ?_;have q:=lv.each (gl:=j) g.gx Jc (λd=>qL s s.f.ga ⟨g.gn,g.gL,g.i6,g.gk,g.gO,g.gi,g.gh,d,[]⟩) (λp c=>Sg p) (λdone p b e=>Ta (h.o p (by simp[e])));refine q.app ?_;split
 .have:=lv.one (gl:=j) (WW h.gR (by decide:dA qG=true)) (R7 (gl:=j) (s:=s) (init:=s.f.ga) (g:=⟨g.gn,g.gL,g.i6,g.gk,g.gO,g.gi,g.gh,g.gx,[]⟩) h.gR);exact this
 rename_i l;have e:g.gR=[]:=by
  cases t:g.gR with
  |nil=>rfl
  |cons a r=>rw[t]at l;simp at l
 have u:g=⟨g.gn,g.gL,g.i6,g.gk,g.gO,g.gi,g.gh,g.gx,[]⟩:=by conv=>rhs;rw[<-e]
 conv=>arg 4;rw[u]
 exact .nil _ _
theorem Vy {k:List hU}(c:nu j k)(a:Bool)(h:∀g∈k,rl k.length g)(s:PS)(l:s.f.ga=[]):lv j s (k.flatMap (zx k a)) {s with f:= {s.f with ga:=k}} :=by
 have b:=lv.xl (gl:=j) k (zx k a) (λd=> {s with f:= {s.f with ga:=d}}) (λdone g i e=> ?_)
 .have e:({s with f:= {s.f with ga:=[]}} :PS)=s:=by rw[<-l]
  rw[e]at b;exact b
 exact Zq c a {s with f:= {s.f with ga:=done}} g (h g (by simp[e])) (c.iB done.length g (by rw[e];simp))
theorem FM (l:List mT)(h:∀a∈l,hZ a.gn=true/\N9 a.km/\N9 a.kA/\N9 a.kv)(s:PS)(g:s.f.gM=[]):lv j s (l.map Eo) {s with f:= {s.f with gM:=l}} :=by
 have b:=lv.each (gl:=j) l Eo (λd=> {s with f:= {s.f with gM:=d}}) (λa i=>RE (h a i).1) (λdone a c e=>SO (h a (by simp[e])));have e:({s with f:= {s.f with gM:=[]}} :PS)=s:=by rw[<-g]
 rw[e]at b;exact b
theorem FN (l:List Region)(h:∀r∈l,∀t∈r.kB,N9 t.start/\N9 t.jx/\N9 t.jz)(s:PS)(g:s.f.d'=[]):lv j s (l.map Gj) {s with f:= {s.f with d':=l}} :=by
 have b:=lv.each (gl:=j) l Gj (λd=> {s with f:= {s.f with d':=d}}) (λa i=>Sq a) (λdone a c e=>R' (h a (by simp[e])));have e:({s with f:= {s.f with d':=[]}} :PS)=s:=by rw[<-g]
 rw[e]at b;exact b
theorem Zp (l:List (List Ins))(h:∀p∈l,nI p)(s:PS)(g:s.f.fY=[]):lv j s (l.map RP) {s with f:= {s.f with fY:=l}} :=by
 have b:=lv.each (gl:=j) l RP (λd=> {s with f:= {s.f with fY:=d}}) (λa i=>WW (h a i) (by decide)) (λdone a c e=>Tb (h a (by simp[e])));have e:({s with f:= {s.f with fY:=[]}} :PS)=s:=by rw[<-g]
 rw[e]at b;exact b
theorem Zm {n:Gl}(g:nu n A)(l:List nD)(h:∀c∈l,N9 c.jN/\In A.length c.z)(s:PS)(j:s.f.f6=[]):lv n s (l.map (Et A)) {s with f:= {s.f with f6:=l}} :=by
 have b:=lv.each (gl:=n) l (Et A) (λd=> {s with f:= {s.f with f6:=d}}) (λa k=>RK g (h a k).2) (λdone a i e=>SU g (h a (by simp[e])));have e:({s with f:= {s.f with f6:=[]}} :PS)=s:=by rw[<-j]
 rw[e]at b;exact b
theorem Zo (l:List mS)(h:∀x∈l,hZ x.gn=true/\∀n∈x.ge,N9 n)(s:PS)(g:s.f.a'=[]):lv j s (l.map Jd) {s with f:= {s.f with a':=l}} :=by
 have b:=lv.each (gl:=j) l Jd (λd=> {s with f:= {s.f with a':=d}}) (λa i=>Sh (h a i).1) (λdone a c e=>Te (h a (by simp[e])));have e:({s with f:= {s.f with a':=[]}} :PS)=s:=by rw[<-g]
 rw[e]at b;exact b
def Ji (b:List hU)(a:List (List Int)->List B)(l:gH):List (List B):=Tt l::l.gC.map (λr=>ku::(a r.gE++[47]::a r.ij++[47]::a r.ahead++[62]::j' b l.gd r))
theorem Uz {p:List hU}(c:nu j p)(g:p.length<=1000)(l:List gH)(h:∀x∈l,1<=x.gd/\x.gd<=8/\∀r∈x.gC,qw p.length x.gd r)(q:List (List Int)->List B)(i:∀x:List (List Int),(∀y∈x,∀n∈y,In p.length n)->G7 p (q x) x/\∀w∈q x,dA w=true)(s:PS)(t:s.f.ge=[]):lv j s (l.flatMap (Ji p q)) {s with f:= {s.f with ge:=l}} :=by
 have a:=lv.xl (gl:=j) l (Ji p q) (λd=> {s with f:= {s.f with ge:=d}}) (λdone x b e=>by
  obtain⟨k,m,o⟩:=h x (by simp[e]);exact Vz c g {s with f:= {s.f with ge:=done}} x ⟨k,m⟩ o q i)
 have e:({s with f:= {s.f with ge:=[]}} :PS)=s:=by rw[<-t]
 rw[e]at a;exact a
theorem FO (h:N9 u):lv j nx [[nN,ag u]] {nx with gt:=true,f:= {f0 with gt:=u}} :=by refine .one (jE (by decide) (by simpa using vw u)) ?_;rw[Xp];simp[sG,iQ _ h,(fJ _ h).2,nx,f0]
def AL (f:iu):List (List B):=[[nN,ag f.gt]]++(f.gM.map Eo++(f.d'.map Gj++((if f.gP.isEmpty then []else [oO::f.gP.map ag])++(f.fY.map RP++(f.ga.flatMap (zx f.ga false)++(f.f6.map (Et f.ga)++(f.ge.flatMap (Ji f.ga (di f.ga))++f.a'.map Jd)))))))
theorem Yb (h:sd k)(a:nu j k.ga):lv j nx (AL k) ⟨k,true,[]⟩:=by
 refine(FO h.gt).app ?_;refine(FM k.gM h.gM _ rfl).app ?_;refine(FN k.d' h.e _ rfl).app ?_;have d:∀s:PS,s.f.gP=[]->lv j s (if k.gP.isEmpty then []else [oO::k.gP.map ag]) {s with f:= {s.f with gP:=k.gP}} :=λs b=>by
  split
  .rename_i he;have e:k.gP=[]:=by simpa using he
   have g:({s with f:= {s.f with gP:=k.gP}} :PS)=s:=by rw[e,<-b]
   rw[g];exact .nil _ _
  have:=lv.one (gl:=j) (jE (by decide:dA oO=true) (OD k.gP)) (SZ (s:=s) h.gP);rw[b]at this;exact this
 refine(d _ rfl).app ?_;refine(Zp k.fY h.fY _ rfl).app ?_;refine(Vy a false h.ga _ rfl).app ?_;refine(Zm a k.f6 h.f6 _ rfl).app ?_;refine(Uz a h.i k.ge h.ge (di k.ga) (λx c=>⟨IN a x c,λw i=>(DT a x c w i).2.2⟩) _ rfl).app ?_;exact Zo k.a' h.k _ rfl
def xZ (L:List (List B)):Prop:=∀l∈L,∀w r,l=w::r->w≠fB
theorem qK (L R:List (List B))(h:xZ L)(n:Nat):bD n (L++R)=bD n R:=by
 induction L with
 |nil=>rfl
 |cons l L a=>
  have:=a (λx b=>h x (by simp[b]));cases l with
  |nil=>rw[nw,Yh];exact this
  |cons w r=>rw[nw,jG,if_neg (h (w::r) (by simp) w r rfl)];exact this
theorem yO (c:xZ v)(d:xZ V):xZ (v++V):=λl hl=>by
 rw[jp]at hl;rcases hl with hl|hl
 .exact c l hl
 exact d l hl
theorem rq (l:List α)(f:α->List B)(h:∀x∈l,∀w r,f x=w::r->w≠fB):xZ (l.map f):=λy a=>by
 rw[mN]at a;obtain⟨x,b,rfl⟩:=a;exact h x b
theorem Kp (l:List α)(f:α->List (List B))(h:∀x∈l,xZ (f x)):xZ (l.flatMap f):=λy a=>by
 rw[rz]at a;obtain⟨x,b,a⟩:=a;exact h x b y a
def oD:Nat->List hU->Gl
 |_,[]=>[]
 |n,g::a=>(g.gn,n)::oD (n+1) a
theorem Qk (G:List hU)(a:Bool)(j:List hU)(d:∀g∈j,hZ g.gn=true)(R:List (List B))(f:xZ R)(n:Nat):bD n (j.flatMap (zx G a)++R)=oD n j:=by
 induction j generalizing n with
 |nil=>simpa [oD,bD]using qK R [] f n
 |cons g j h=>
  have c:xZ ((fV g.gk 0 g.gO).map V8++(g.gi.map (Jk G)++(g.gh.map Jb++(g.gx.map Jc++if a|| !g.gR.isEmpty then [uE g.gR]else [])))):=by
   refine yO (rq _ _ λx _ w r e=> ?_) (yO (rq _ _ λx _ w r e=> ?_) (yO (rq _ _ λx _ w r e=> ?_) (yO (rq _ _ λx _ w r e=> ?_) ?_)))
   .injection e with e _;rw[<-e];decide
   .injection e with e _;rw[<-e];decide
   .injection e with e _;rw[<-e];decide
   .injection e with e _;rw[<-e];decide
   split
   .intro l b w r e;simp only[js]at b;subst b;injection e with e _
    rw[<-e];decide
   intro l b;simp at b
  rw[nW,zx,nw,nw,Sm,jG,if_pos rfl,BM];simp only[d g (by simp),if_true];rw[mL,qK _ _ c,h (λx i=>d x (by simp[i]))];rfl
theorem Km (f:List hU)(h:(f.map (·.gn)).Nodup)(n:Nat)(i:Nat)(g:hU)(hi:f[i]?=some g):(oD n f).lookup g.gn=some (n+i):=by
 induction f generalizing n i with
 |nil=>simp at hi
 |cons a f c=>
  rw[lP,List.nodup_cons]at h;cases i with
  |zero=>simp only[oj,n']at hi;subst hi;simp[oD,List.lookup]
  |succ i=>
   simp only[oX]at hi;have b:g.gn≠a.gn:=λe=>h.1 (by rw[<-e];exact List.mem_map_of_mem (kj hi))
   have d:(g.gn==a.gn)=false:=by simpa using b
   rw[oD,List.lookup,d];show(oD (n+1) f).lookup g.gn=_;rw[c h.2 (n+1) i hi];congr 1
   omega
theorem Rr (b:List hU)(c:List (List Int)->List B)(l:List gH):xZ (l.flatMap (Ji b c)):=Kp _ _ λx _=>by
 intro y a w r e;rw[Ji,lx,mN]at a;rcases a with rfl|⟨q,_,rfl⟩
 .injection e with e _;rw[<-e];decide
 injection e with e _;rw[<-e];decide
theorem R6 (l:List mT):xZ (l.map Eo):=rq _ _ λx _ w r e=>by injection e with e _;rw[<-e];decide
theorem Rs (l:List Region):xZ (l.map Gj):=rq _ _ λx _ w r e=>by injection e with e _;rw[<-e];decide
theorem Rg (l:List (List Ins)):xZ (l.map RP):=rq _ _ λx _ w r e=>by injection e with e _;rw[<-e];decide
theorem Re (a:List hU)(l:List nD):xZ (l.map (Et a)):=rq _ _ λx _ w r e=>by injection e with e _;rw[<-e];decide
theorem Rm (l:List mS):xZ (l.map Jd):=rq _ _ λx _ w r e=>by injection e with e _;rw[<-e];decide
theorem Rv (u:B):xZ [[nN,u]]:=λl a w r e=>by
 simp only[js]at a;subst a;injection e with e _
 rw[<-e];decide
theorem Yc (h:sd k):nu (bD 0 (AL k)) k.ga:=by
 have c:xZ (if k.gP.isEmpty then []else [oO::k.gP.map ag]):=by
  split
  .intro l a;simp at a
  intro l a w r e;simp only[js]at a;subst a;injection e with e _
  rw[<-e];decide
 have e:bD 0 (AL k)=oD 0 k.ga:=by rw[AL,qK _ _ (Rv _),qK _ _ (R6 _),qK _ _ (Rs _),qK _ _ c,qK _ _ (Rg _)];exact Qk _ _ _ (λg b=>(h.ga g b).gn) _ (yO (Re _ _) (yO (Rr _ _ _) (Rm _))) 0
 rw[e];exact⟨λi g hi=>by rw[Km _ h.apart 0 i g hi,mU],λg b=>(h.ga g b).gn⟩
theorem Vb (L:List (List B))(f:iu)(b:Bool)(c:List (B×List Int))(h:lv (bD 0 L) nx L ⟨f,b,c⟩):qU (L.flatMap xW)=.ok f:=by rw[qU,YH L h.1,DM,h.2 1];rfl
theorem Dl (l:List α)(f:α->List B):(l.map f).flatMap xW=l.flatMap (λx=>xW (f x)):=by
 induction l with
 |nil=>rfl
 |cons a r b=>simp[b]
theorem U4 (a:List hU)(g:hU):(zx a false g).flatMap xW=eF a g:=by
 rw[zx,eF];simp only[nW,rj,Dl,mL];congr 1
 congr 1
 congr 1
 congr 1
 congr 1
 cases h:g.gR.isEmpty<;>simp[uE,xW]
theorem Tv (a:List hU)(l:gH):(Ji a (di a) l).flatMap xW=eu a l:=by rw[Ji,eu];simp only[nW,Dl];rfl
theorem LW (f:iu):(AL f).flatMap xW=mD f:=by
 rw[AL,mD];simp only[rj,Dl,mL,nW,tx,pp,List.flatMap_assoc,U4,Tv];congr 1
 congr 1
 congr 1
 congr 1
 cases h:f.gP.isEmpty<;>simp[xW]
theorem YV (h:sd k):qU (mD k)=.ok k:=by rw[<-LW];exact Vb _ _ _ _ (Yb h (Yc h))
def lA (e d:Nat)(w:World)(b p:Nat)(a:Int)(n:Nat)(g:List Value)(v:Value)(f:World):Prop:=∃A c,v=.slice A n c/\f.ownsRow w.heap.size e d (.slice A n c) n g/\i8 f b p a/\w.grownBy f (some b)
def QZ (e d:Nat)(w:World)(b p:Nat)(a:Int)(n:Nat)(f:List Value)(c:Ending)(w':World):Prop:=∃v,c=.returned v/\lA e d w b p a n f v w'
theorem lA.start {c p:Nat}(h:i8 a c p u)(d:w.grownBy a (some c)):lA e b w c p u 0 [] (.slice none 0 0) a:=⟨none,0,rfl,World.ownsRow_nil _ _ _ _,h,d⟩
theorem dC {l n g:Nat}{v:Value}(h:w.ownsRow b e l v n o)(c:Bk w g t d)(a:t≠e):v.ownBlock=none\/v.ownBlock≠some g:=by
 cases j:v.ownBlock with
 |none=>exact .inl rfl
 |some k=>
  refine .inr (λm=> ?_);injection m with m
  subst m;obtain⟨f,i⟩:=dY h j;exact a (dw c i).1
theorem lA.next {e u:Nat}{w v j y:World}{b p:Nat}{k a:Int}{n i:Nat}{z d:List Value}{A x:Option Addr}{c c2:Nat}(l:v.ownsRow w.heap.size e u (A n c) n z)(q:i8 v b p k)(r:w.grownBy v (some b))
  (s:i8 j b p a) (o:v.grownBy j (some b)) (t:y.ownsRow w.heap.size e u (x i c2) i d) (f:j.grownBy y (Value.slice A n c).ownBlock) (h:UL≠e):lA e u w b p a i d (x i c2) y:=by
 have m:=l.kept o (dC l q h);exact⟨x,c2,rfl,t,Bk.grown s f m h,O9 (dI r o) f (λg e=>(l.lt g e).1)⟩
theorem Og {w':World}{p:Nat}{n:Nat}(h:i7 w 101 x n 3 o)(c:i8 w b p u)(d:w.grownBy w' (some b)):i7 w' 101 x n 3 o:=h.grown d (λg e=>by cases e;exact⟨_,_,c,by decide⟩)
theorem CP {c p:Nat}{n k:Nat}{r:List P3}(d:i7 w 101 x n 3 (dP r))(f:i8 w c p u)(g:w.grownBy a (some c))(h:k<n):
  ∃b o A y z,x=some ⟨b,o,none⟩/\Hid (r[k]?=some (A,y,z))/\a.cell? ⟨b,o+k*3,none⟩=some (.int .i64 A)/\a.cell? ⟨b,o+k*3+1,none⟩=some (.int .i64 y)/\a.cell? ⟨b,o+k*3+2,none⟩=some (.string ⟨z.toArray⟩):=by
 obtain⟨b,o,A,y,z,e,-,i,j,l,m⟩:=(Og d f g).rd.rB h;exact⟨b,o,A,y,z,e,i,j,l,m⟩
def af (a:List P3):List B:=a.map (·.2.2)
theorem ji (a:List P3):(af a).length=a.length:=by simp[af]
theorem yg {c:List P3}{k:Nat}{y:Int}(h:c[k]?=some (u,y,z)):(af c).take (k+1)=(af c).take k++[z]:=by obtain⟨a,b⟩:=ll.1 h;rw[re (by rw[ji];exact a)];simp[af,b]
theorem i8.alloc {p:Nat}(h:i8 w b p u)(o:Obj):i8 (w.alloc o) b p u:=Bk.alloc h o
theorem CR (h:m=l++[z]):aC (m.map aI)=aC (l.map aI)++[.int .i64 (aI z)]:=by subst h;simp[aC,cI]
theorem X8 (a:Int)(h:m=l++[z]):gu a m=aP (gu a l) z:=by subst h;simp[gu]
theorem yJ (f p:Nat)(a:Int)(A:Option Addr)(n c:Nat)(ws:List P3)(I:i8 W f p a)(m:i7 W 101 A n 3 (dP ws))(aa:∀x∈ws,x.2.2.length<=800000000)(U:n<=1000000000):
  Calls Tryz.prog 92 #[.pointer (f,0),A n c] W (QZ 3 1 W f p (gu a (af ws)) n (aC ((af ws).map aI))):=by
 have q:=J m.rd.Z;have K:=J I;have O:=J m;have P:=J aa;clear I m aa;go_enter Tryz.func92,Tryz.ntmps92
 go_wp2;go_loopw [5,10] (λv i wr=>∃k:Nat,k<=n/\i=.int .i64 k/\lA 3 1 W f p (gu a ((af ws).take k)) k (aC (((af ws).take k).map aI)) v wr) (λ_ i _=>n - (intOf i).toNat)
 case atStart=>exact⟨0,nz _,rfl,lA.start K (World.grownBy.refl _ _)⟩
 case round=>
  obtain⟨k,V,rfl,L,M,rfl,g,h,l⟩:=hrel;by_cases r:k<n
  .obtain⟨b,o,x,y,z,rfl,s,w,X,Y⟩:=CP O K l r;have N:z.length<=800000000:=P _ (vX s);have t:=yg s;have u:=J (CR t);have B:=J (X8 a t);have j:=J h;have C:=J (eG _ f p _ z (h.alloc (.cells #[x,y,.string z] 101)) N);have D:wr.grownBy (wr.alloc (.cells #[x,y,.string z] 101)) (some f):=World.grownBy_alloc _ _ _;have Q:=l.size;generalize aC (((af ws).take k).map aI)=R at*
   clear s t N h;go_wp2_with (first
    |(go_at_call 90;refine C.mono ?_;rintro e S ⟨rfl,E,F⟩;have d:=dI D F;have Z:=d.size)
    |(at_builtin;refine jr iw rfl (.tmp 14) (.tmp 19) rfl S _ rfl W.heap.size k M L R #[.int .i64 (aI z)] rfl rfl rfl (g.kept d (dC g j (by decide))) (by simp[Value.oneCell']) (by omega) (by omega) ?_;intro A5 c5 w2 G H _))
   go_roundw
   case rel=>exact⟨k+1,by omega,by simp,by rw[u.out,B.out];exact lA.next g j l E d G H (by decide)⟩
   case measure=>simp[intOf];omega
  obtain rfl:k=n:=by omega
  have T:Hid ((af ws).take k=af ws):=by show _=_;exact oY (by rw[ji,q.out];exact ae _)
  rw[T.out]at g h;go_wp2;go_ret
  exact⟨_,rfl,L,M,rfl,g,h,l⟩
section
open Go.Sort
theorem yZ (a b:B)(c:a.length<=1000000)(d:b.length<=1000000):∃u:B,(∀w,(Op.stringOp .add ⟨a.toArray⟩ ⟨b.toArray⟩).run Tryz.prog w=.ok (.string u) w)/\u.length<=a.length+b.length/\Hid (u=a++b):=⟨a++b,λw=>run_string_add_lists w a b (by omega) (by omega),by simp,rfl⟩
theorem XU (Bd g:Nat)(M:Nat->Value)(n:B)(A:Option Addr)(c:Nat)(l:List Pt)(E:iN W)(hp:Pr W Bd g M n)(N:Bd<=W.heap.size)(hA:Sl lr 3 W (FT W) A l)(hl:l.length<=10000000000)(q:n.length+(aJ ik (l.map jZ)).length<=1000000000000):
  Calls Tryz.prog 65 #[.pointer (g,0),A l.length c] W λe C=>e=.returned (.tuple #[])/\Pr C Bd g M (n++aJ ik (l.map jZ))/\KP W C/\Below Bd W C:=by
 have O:(l.map jZ).length<=l.length:=by simp
 go_enter Tryz.func65,Tryz.ntmps65
 go_wp2;go_loopw [4,10] (λv i wr=>∃k:Nat,k<=l.length/\i=.int .i64 k/\nv W ((l.take k).map jZ) v wr) (λ_ i _=>l.length - (intOf i).toNat)
 case atStart=>exact⟨0,nz _,rfl,by simpa using nv.nil W⟩
 case round=>
  obtain⟨k,hk,rfl,ad,c3,rfl,d,a⟩:=hrel;have F:((l.take k).map jZ).length<=k:=by simp;omega
  by_cases P:k<l.length
  .obtain⟨b,o,x,rfl,-,hx,q0,q1,q2,K,L⟩:=((KP.below a).sl lr.ok hA).pt P;have HS:=J (pJ jZ l k x hx);generalize r:(l.take k).map jZ=m at*
   have s0:=a.size;have G:pT W m m.length ad c3 wr:=⟨rfl,d,a⟩
   have aa:m.length<=100000000000:=by omega
   obtain⟨t,u,on⟩:=x;dsimp only at q0 q1 q2 K L;have Q:=E.all a;have n0:=J (λW E=>bi W t E K);have n1:=J (λW E=>bi W u E L);have l0:=wK K;have l1:=wK L;have HP:Hid (jZ ⟨t,u,on⟩=ag t++44::ag u++if on then []else [42]):=rfl;generalize ag t=t0 at*
   generalize ag u=t1 at*
   obtain⟨u1,a1,R,U1⟩:=yZ t0 [44] (by omega) (by simp);obtain⟨u2,a2,m2,U2⟩:=yZ u1 t1 (by simp only[aV,ln]at R;omega) (by omega);obtain⟨u3,a3,m3,U3⟩:=yZ u2 [42] (by simp only[aV,ln]at R;omega) (by simp);simp only[aV,ln]at R m3;clear hx r F K L;go_wp2_with fail
   obtain⟨D,f⟩:∃D,wr.alloc (.cells #[t,u,.bool on] 196)=D:=⟨_,rfl⟩
   rw[f];have y:Below wr.heap.size wr D:=by rw[<-f];exact(gD _ _).alloc (ae _) _
   have H:=Q.all y;have k0:D.cell? ⟨wr.heap.size,0,none⟩=some (.int .i64 t):=by rw[<-f];simp[go_sem]
   have k1:D.cell? ⟨wr.heap.size,1,none⟩=some (.int .i64 u):=by rw[<-f];simp[go_sem]
   have k2:D.cell? ⟨wr.heap.size,2,none⟩=some (.bool on):=by rw[<-f];simp[go_sem]
   have z0:=y.size;clear f q0 q1 q2
   go_region_held3 (λC=>C.cell? ⟨wr.heap.size,0,none⟩=some (.int .i64 t)/\C.cell? ⟨wr.heap.size,1,none⟩=some (.int .i64 u))
    (first
     |exact⟨ah h k0,ah h k1⟩
     |exact⟨ah j k0,ah j k1⟩
     |go_keep)
    (first
     |(go_at_call 20;refine(n0 _ H.drew).mono ?_;rintro e w1 ⟨rfl,S⟩;have j:=lC S)
     |(go_at_call 20;refine(n1 _ (H.all j)).mono ?_;rintro e w2 ⟨rfl,T⟩;have h:=bt j T;have z2:=h.size))
   have k3:=ah h k2;have p:=bt y h;cases on with
   |true=>
    go_wp2_with (at_builtin;refine kF rfl (.tmp 27) (.tmp 29) rfl w2 W.heap.size m.length c3 ad (strs m) u2 rfl rfl (gj d p) (by omega) (by omega) ?_;intro A4 c4 w4 U z)
    have I:=G.next (us:=[u2]) p U z;go_roundw
    case rel=>exact⟨k+1,by omega,by simp,by rw[HS.out,HP.out];rw[U2.out,U1.out]at I;simpa using I.s⟩
    case measure=>simp[intOf];omega
   |false=>
    go_wp2_with (at_builtin;refine kF rfl (.tmp 27) (.tmp 29) rfl w2 W.heap.size m.length c3 ad (strs m) u3 rfl rfl (gj d p) (by omega) (by omega) ?_;intro A4 c4 w4 U z)
    have I:=G.next (us:=[u3]) p U z;go_roundw
    case rel=>exact⟨k+1,by omega,by simp,by rw[HS.out,HP.out];rw[U3.out,U2.out,U1.out]at I;simpa using I.s⟩
    case measure=>simp[intOf];omega
  obtain rfl:k=l.length:=by omega
  have HL:Hid ((l.take l.length).map jZ=l.map jZ):=by show _=_;rw[lf]
  rw[<-HL.out]at q O;generalize r:(l.take l.length).map jZ=m at*
  have V:=hp.below a;have w:=vJ d;have X:m.length<=1000000000000:=by omega
  clear r F;go_wp2_with (go_at_call 19;((with_reducible refine(Ie _ Bd g M n ik ad c3 m V w q X).mono ?_);rintro e w4 ⟨rfl,WJ,Y,Z⟩))
  go_end0
  rw[<-HL.out];exact⟨rfl,WJ,(KP.below a).trans Y,(a.mono N).trans Z⟩
end
theorem qX {β:Type}(l:List α)(f:α->List β)(k n:Nat)(h:∀x∈l,(f x).length<=k)(b:l.length<=n):(l.flatMap f).length<=n*k:=by
 have:(l.flatMap f).length<=l.length*k:=by
  clear b;induction l with
  |nil=>simp
  |cons a r c=>rw[nW,la,aV,rF];have:=h a (by simp);have:=c (λx d=>h x (by simp[d]));omega
 exact nt this (xw k b)
theorem zK (n:Int)(h:N9 n):(ag n).length<=10:=by
 unfold N9 at h;unfold ag Lib.itoa;split
 .have:=(Hg n.natAbs (by omega)).2;rw[aV];omega
 have:=(Hg n.toNat (by omega)).2;omega
theorem oM (h:hZ z=true):z.length<=16:=by rw[hZ,np,decide_eq_true_iff]at h;exact h.1.2
def mR (l:List B):Prop:=∀w∈l,w.length<=32
theorem mR.nil:mR []:=λw h=>by simp at h
theorem mR.cons (h:z.length<=32)(k:mR l):mR (z::l):=λx hx=>by
 rw[lx]at hx;rcases hx with rfl|hx
 .exact h
 exact k x hx
theorem mR.app (h:mR l)(k:mR m):mR (l++m):=λx hx=>by
 rw[jp]at hx;rcases hx with hx|hx
 .exact h x hx
 exact k x hx
theorem mR.map {l:List α}{f:α->B}(h:∀x∈l,(f x).length<=32):mR (l.map f):=λw a=>by
 rw[mN]at a;obtain⟨x,b,rfl⟩:=a;exact h x b
theorem mR.flat {l:List α}{f:α->List B}(h:∀x∈l,mR (f x)):mR (l.flatMap f):=λw a=>by
 rw[rz]at a;obtain⟨x,b,a⟩:=a;exact h x b w a
theorem mR.it (h:∀n∈U,N9 n):mR (U.map ag):=mR.map λn a=>nt (zK n (h n a)) (by decide)
theorem Kk (l:List B)(h:mR l):(gy l).length<=33*l.length:=by have:(gy l).length<=l.length*33:=qX l _ 33 l.length (λw a=>by rw[aV];have:=h w a;omega) (ae _);omega
def Lk (L:List (List B))(k:Nat):Prop:=(L.flatMap xW).length<=k
theorem Lk.line {n:Nat}(h:mR l)(a:l.length<=n):Lk [l] (33*n+1):=by
 unfold Lk;cases l with
 |nil=>simp[xW]
 |cons w r=>simp only[nW,tx,pp,xW,aJ,la,aV,ln];have c:=h w (by simp);have d:=Kk r (λx b=>h x (by simp[b]));rw[aV]at a;omega
theorem Lk.mono {k n:Nat}(h:Lk v k)(a:k<=n):Lk v n:=nt h a
theorem Lk.nil (k:Nat):Lk [] k:=nz _
theorem Lk.app {k n:Nat}(h:Lk v k)(g:Lk V n):Lk (v++V) (k+n):=by
 unfold Lk at*
 rw[rj,la];omega
theorem Lk.cons {k n:Nat}(h:Lk [l] k)(g:Lk v n):Lk (l::v) (k+n):=h.app g
theorem Lk.map {l:List α}{f:α->List B}{k n:Nat}(h:∀x∈l,Lk [f x] k)(a:l.length<=n):Lk (l.map f) (n*k):=by
 unfold Lk at*
 rw[Dl];exact qX l _ k n (λx b=>by have:=h x b;simpa using this) a
theorem Lk.flat {l:List α}{f:α->List (List B)}{k n:Nat}(h:∀x∈l,Lk (f x) k)(a:l.length<=n):Lk (l.flatMap f) (n*k):=by
 unfold Lk at*
 rw[List.flatMap_assoc];exact qX l _ k n h a
structure yo (r:k'):Prop where
 rows:r.gE.length<=3/\r.ij.length<=3/\r.ahead.length<=3
 N:(∀s∈r.gE,s.length<=4)/\(∀s∈r.ij,s.length<=4)/\∀s∈r.ahead,s.length<=4
 outs:r.out.length<=4/\r.gw.length<=2
structure yn (g:hU):Prop where
 h:g.gk.length<=12
 gO:g.gO.length<=2
 gi:g.gi.length<=1
 M:g.gh.length<=5
 o:g.gx.length<=40
 gR:g.gR.length<=60
structure vn (f:iu):Prop where
 ga:f.ga.length<=10/\∀g∈f.ga,yn g
 f6:f.f6.length<=16
 ge:f.ge.length<=6/\∀l∈f.ge,l.gC.length<=3/\∀r∈l.gC,yo r
 k:f.a'.length<=8/\∀x∈f.a',x.ge.length<=6
 gM:f.gM.length<=2
 e:f.d'.length<=3/\∀r∈f.d',r.kB.length<=2
 fY:f.fY.length<=2/\∀p∈f.fY,p.length<=60
 gP:f.gP.length<=3
theorem Sv:∀s∈opNames,s.length<=8:=by decide
theorem Ke:∀s∈aH,s.length<=9:=by decide
theorem Dg:∀s∈anchorNames,s.length<=9:=by decide
theorem JP (l:List B)(k:Nat)(h:∀s∈l,s.length<=k)(a:1<=k)(n:Int):(pick l n).length<=k:=by
 unfold pick;split
 .exact a
 cases e:l[(n - 1).toNat]? with
 |none=>exact a
 |some s=>exact h s (kj e)
theorem Fe (h:∀g∈A,hZ g.gn=true){n:Int}(a:In A.length n):(dK A n).length<=32:=by obtain⟨b,c⟩:=a;have e:A[n.toNat]?=some (A[n.toNat]'(by omega)):=jO (by omega);unfold dK;rw[if_neg (by omega),e];exact nt (oM (h _ (List.getElem_mem _))) (by decide)
theorem OS {i:Ins}(h:N9 i.a):(dO i).length<=32:=by
 have b:=JP opNames 8 Sv (by decide) i.op;have c:=zK i.a h;unfold dO nK;rw[la];split
 .simp only[ln];omega
 rw[aV];omega
theorem Sy {p:Pt}(h:N9 p.x/\N9 p.y):(jZ p).length<=32:=by
 have a:=zK p.x h.1;have b:=zK p.y h.2;unfold jZ;simp only[la,aV];split
 .simp only[ln];omega
 simp only[aV,ln];omega
theorem Hj {c:Call}(h:N9 c.iB/\N9 c.lookup):(ag c.iB++58::ag c.lookup).length<=32:=by have a:=zK c.iB h.1;have b:=zK c.lookup h.2;simp only[la,aV];omega
theorem n32 {n:Int}(h:N9 n):(ag n).length<=32:=nt (zK n h) (by decide)
theorem Q6 {p:List Ins}(h:nI p):mR (p.map dO):=mR.map λi hi=>OS (h i hi).2.2
theorem Dv (a:List Pt)(b:List Int):∀d,(fV a d b).length<=b.length/\∀c∈fV a d b,c.length<=a.length/\∀p∈c,p∈a:=by
 induction b with
 |nil=>intro d;simp[fV]
 |cons e b g=>
  intro d;rw[fV];split
  .simp
  obtain⟨k,i⟩:=g (e.toNat+1);refine⟨by simp only[aV];omega,λc hc=> ?_⟩;rw[lx]at hc;rcases hc with rfl|hc
  .refine⟨?_,λp j=>List.mem_of_mem_take (List.mem_of_mem_drop j)⟩;rw[tw,ot];omega
  exact i c hc
section
variable {f:iu} (h:sd f) (hs:vn f)
include h in
theorem VE:∀g∈f.ga,hZ g.gn=true:=λg a=>(h.ga g a).gn
include h in
theorem Pb:Lk [[nN,ag f.gt]] 67:=Lk.line (n:=2) (.cons (by decide) (.cons (n32 h.gt) .nil)) (by simp)
end
def DU (t:B):Bool:=t.getLast? ==some 42
theorem Sa (t:B):Lib.trimSuffix t [42]=fC t/\Lib.hasSuffix t [42]=DU t:=by
 have a:Lib.hasSuffix t [42]=DU t:=by
  rw[Lib.hasSuffix,DU,Bool.eq_iff_iff,List.isSuffixOf_iff_suffix,beq_iff_eq];constructor
  .rintro⟨r,rfl⟩;exact List.getLast?_concat
  intro h;obtain⟨r,b⟩:=List.getLast?_eq_some_iff.1 h;exact⟨r,b.symm⟩
 refine⟨?_,a⟩;rw[Lib.trimSuffix,a,fC,DU];by_cases h:t.getLast? =some 42
 .rw[if_pos h,if_pos (by simpa using h),List.dropLast_eq_take];rfl
 rw[if_neg h,if_neg (by simpa using h)]
theorem DB (t:B)(g:t.length<=800000000):Calls Tryz.prog 140 #[.string t,.string ⟨#[42]⟩] W λe a=>e=.returned (.tuple #[.string (fC t),.bool (DU t)])/\W=a:=by obtain⟨b,c⟩:=Sa t;refine(Tryz.strings_CutSuffix ⟨t.toArray⟩ ⟨#[42]⟩ W (by show t.length<=_;omega)).mono ?_;rintro e a ⟨d,f⟩;refine⟨?_,f.symm⟩;rw[d,<-b,<-c]
theorem ZC (t:B):(fC t).length<=t.length:=by
 unfold fC;split
 .simp
 exact ae _
theorem Rt (c:UInt8)(t:B):(dH c t).length<=t.length:=(List.takeWhile_prefix (l:=t) (λx=>x !=c)).length_le
theorem Jz (c:UInt8)(t:B):(dZ c t).length<=t.length:=by unfold dZ;have:=(List.dropWhile_suffix (l:=t) (λx=>x !=c)).length_le;simp;omega
theorem Fa (f:Int->B->Int)(a:Int)(h:m=l++[z]):m.foldl f a=f (l.foldl f a) z:=by subst h;simp
def sS (l:List Ins):List Value:=l.flatMap λi=>[.int .i64 i.op,.int .i64 i.a]
def Gg (l:List Pt):List Value:=l.flatMap λi=>[.int .i64 i.x,.int .i64 i.y,.bool i.on]
def uF (l:List Call):List Value:=l.flatMap λi=>[.int .i64 i.iB,.int .i64 i.lookup]
theorem i8.drewN {p:Nat}(h:i8 w b p u)(n:Nat):i8 (w.drewN n) b p u:=h
theorem Bk.newAt (h:Nat)(a:W.heap.size=h):Bk (W.alloc (.cells d t)) h t d:=by subst a;exact Bk.new _ _ _
theorem Bk.L {w':World}(c:w.grownBy w' (some b))(h:Bk w e t d)(a:e≠b):Bk w' e t d:=(c.block e h.lt (λg=>by injection g with g;exact a g)).trans h
def nT:Nat:=5+1
structure mB (w:World):Prop where
 ops:nF w 5 (strs opNames)
 M:nF w 1 (strs anchorNames)
 kinds:nF w 2 (strs aH)
theorem nF.keep {w':World}{c:List Value}(h:nF w b c)(a:w'.heap[b]?=w.heap[b]?):nF w' b c:=by obtain⟨t,g,h⟩:=h;exact⟨t,g,a.trans h⟩
theorem mB.grown {w':World}{row:Option Nat}(h:mB w)(a:w.grownBy w' row)(b:∀g,row=some g->nT<=g):mB w':=by unfold nT at b;refine⟨h.ops.keep (a.block _ h.ops.lt λe=> ?_),h.M.keep (a.block _ h.M.lt λe=> ?_),h.kinds.keep (a.block _ h.kinds.lt λe=> ?_)⟩<;>(have:=b _ e.symm;omega)
theorem mB.below {w w':World}(h:mB w)(a:Below w w w'):mB w':=h.grown (row:=none) (az a none) (λg e=>by cases e)
theorem JK (f:B->α)(h:m=l++[z]):m.map f=l.map f++[f z]:=by subst h;simp
theorem Hk (d p:Nat)(a:Int)(A:Option Addr)(n c:Nat)(ws:List P3)(X:i8 W d p a)(H:i7 W 101 A n 3 (dP ws))(Y:∀x∈ws,x.2.2.length<=800000000)(hn:n<=1000000000):
  Calls Tryz.prog 143 #[.pointer (d,0),A n c] W (QZ 71 2 W d p ((af ws).foldl oI a) n (uF ((af ws).map mZ))):=by
 have I:=J H.rd.Z;have Z:=J X;have HW:=J H;have HL:=J Y;clear X H Y;go_enter Tryz.func143,Tryz.ntmps143
 go_wp2;go_loopw [5,14] (λv i wr=>∃k:Nat,k<=n/\i=.int .i64 k/\lA 71 2 W d p (((af ws).take k).foldl oI a) k (uF (((af ws).take k).map mZ)) v wr) (λ_ i _=>n - (intOf i).toNat)
 case atStart=>exact⟨0,nz _,rfl,lA.start Z (World.grownBy.refl _ _)⟩
 case round=>
  obtain⟨k,hk,rfl,A4,c4,rfl,m,q,r⟩:=hrel;by_cases ad:k<n
  .obtain⟨b,o,x,y,z,rfl,K,q1,q2,q3⟩:=CP HW Z r ad;have G:z.length<=800000000:=HL _ (vX K);have L:=yg K;have M:=J (JK mZ L);have N:=J (Fa oI a L);have f:=J q;have HG:=J r;have aa:=r.size;have ab:d<wr.heap.size:=q.lt;have s:Hid (uF (((af ws).take k).map mZ++[mZ z])=uF (((af ws).take k).map mZ)++uF [mZ z]):=by show _=_;simp[uF]
   rw[<-M.out]at s;generalize uF (((af ws).take k).map mZ)=xs at*
   generalize ((af ws).take k).foldl oI a=t at*
   have hx:=nt (Rt 58 z) G;have hy:=nt (Jz 58 z) G;have O:=J (λW=>Rx W z 58 G);have P:=J (λW h=>eG W d p t (dH 58 z) h hx);have Q:=J (λW h=>eG W d p (aP t (dH 58 z)) (dZ 58 z) h hy);have R:Hid (oI t z=aP (aP t (dH 58 z)) (dZ 58 z)):=rfl;have S:Hid (uF [mZ z]=[.int .i64 (aI (dH 58 z)),.int .i64 (aI (dZ 58 z))]):=rfl;generalize u:aP t (dH 58 z)=T at*
   generalize B:aP T (dZ 58 z)=Ey at*
   generalize aI (dH 58 z)=U at*
   generalize aI (dZ 58 z)=v2 at*
   clear K L G q hx hy u B r;go_wp2_with (go_at_call 136;refine(O _).mono ?_;rintro e w1 ⟨rfl,nd,rfl⟩)
   go_wp2_with fail
   refine(P _ (by exact((f.alloc _).drewN nd).alloc _)).mono ?_;rintro e w2 ⟨rfl,C,g⟩;have wI:wr.grownBy w2 (some d):=dI (jI (kQ (World.grownBy_alloc wr _ _) nd) _) g;have D:Bk w2 (wr.heap.size+1) 71 #[.int .i64 0,.int .i64 0]:=Bk.L g (Bk.newAt _ _ (by simp)) (by simp;omega);have c0:=D.cell 0;have f0:=D.frozen 0;simp only[List.getElem?_toArray,oj]at c0;have V:=J D;have EP:=J wI;have nO:=J C;clear D wI C g;go_wp2_with fail
   refine(Q _ (by exact Bk.I nO (by simp;omega) _)).mono ?_;rintro e l ⟨rfl,E,j⟩;have zC:wr.grownBy l (some d):=dI (aX EP (.inr (by simp)) _) j;have F:Bk l (wr.heap.size+1) 71 #[U,.int .i64 0]:=Bk.L j (V.set 0 _) (by simp;omega);have d0:l.cell? ⟨wr.heap.size+1,0,none⟩=some (.int .i64 U):=F.cell 0;have d1:l.cell? ⟨wr.heap.size+1,1,none⟩=some (.int .i64 0):=F.cell 1;have g1:=F.frozen 1;have z3:=F.lt;have EQ:=J zC;have ou:=J E;clear F zC E j;go_wp2_with (at_builtin;refine jr RH rfl (.tmp 33) (.tmp 35) rfl (l.setCell ⟨wr.heap.size+1,1,none⟩ (.int .i64 v2)) l.heap.size (by simp) W.heap.size k c4 A4 xs #[U,v2] rfl rfl rfl (m.kept (aX EQ (.inr (by simp)) _) (dC m f (by decide))) (by simp[Value.oneCell']) (by omega) (by simp;omega) ?_;intro A5 c5 w4 bW w _)
   go_roundw
   case rel=>exact⟨k+1,by omega,by simp,by rw[N.out,R.out,s.out,S.out];exact lA.next m f HG (Bk.I ou (by simp;omega) _) (aX EQ (.inr (by simp)) _) bW w (by decide)⟩
   case measure=>simp[intOf];omega
  obtain rfl:k=n:=by omega
  have ht:Hid ((af ws).take k=af ws):=by show _=_;exact oY (by rw[ji,I.out];exact ae _)
  rw[ht.out]at m q;go_wp2;go_ret
  exact⟨_,rfl,A4,c4,rfl,m,q,r⟩
theorem Cr (d p:Nat)(a:Int)(A:Option Addr)(n c:Nat)(ws:List P3)(hR:i8 W d p a)(I:i7 W 101 A n 3 (dP ws))(hl:∀x∈ws,x.2.2.length<=800000000)(hn:n<=1000000000):
  Calls Tryz.prog 99 #[.pointer (d,0),A n c] W (QZ 196 3 W d p ((af ws).foldl AB a) n (Gg ((af ws).map uo))):=by
 have ad:=J I.rd.Z;have HR:=J hR;have HW:=J I;have HL:=J hl;clear hR I hl;go_enter Tryz.func99,Tryz.ntmps99
 go_wp2;go_loopw [5,16] (λv i wr=>∃k:Nat,k<=n/\i=.int .i64 k/\lA 196 3 W d p (((af ws).take k).foldl AB a) k (Gg (((af ws).take k).map uo)) v wr) (λ_ i _=>n - (intOf i).toNat)
 case atStart=>exact⟨0,nz _,rfl,lA.start HR (World.grownBy.refl _ _)⟩
 case round=>
  obtain⟨k,hk,rfl,A4,c4,rfl,q,r,s⟩:=hrel;by_cases K:k<n
  .obtain⟨b,o,x,y,z,rfl,L,q1,q2,q3⟩:=CP HW HR s K;have M:z.length<=800000000:=HL _ (vX L);have N:=yg L;have O:=J (JK uo N);have P:=J (Fa AB a N);have f:=J r;have HG:=J s;have ab:=s.size;have ac:d<wr.heap.size:=r.lt;have t:Hid (Gg (((af ws).take k).map uo++[uo z])=Gg (((af ws).take k).map uo)++Gg [uo z]):=by show _=_;simp[Gg]
   rw[<-O.out]at t;generalize Gg (((af ws).take k).map uo)=xs at*
   generalize ((af ws).take k).foldl AB a=u at*
   have G:=nt (ZC z) M;have hx:=nt (Rt 44 (fC z)) G;have hy:=nt (Jz 44 (fC z)) G;have Q:=J (λW=>DB W z M);have R:=J (λW=>Rx W (fC z) 44 G);have S:=J (λW h=>eG W d p u (dH 44 (fC z)) h hx);have T:=J (λW h=>eG W d p (aP u (dH 44 (fC z))) (dZ 44 (fC z)) h hy);have U:Hid (AB u z=aP (aP u (dH 44 (fC z))) (dZ 44 (fC z))):=rfl;have V:Hid (Gg [uo z]=[.int .i64 (aI (dH 44 (fC z))),.int .i64 (aI (dZ 44 (fC z))),.bool (!DU z)]):=rfl;generalize B:aP u (dH 44 (fC z))=w at*
   generalize C:aP w (dZ 44 (fC z))=Ey at*
   generalize aI (dH 44 (fC z))=X at*
   generalize aI (dZ 44 (fC z))=v2 at*
   generalize DU z=H at*
   clear L N M r hx hy B C s G;go_wp2_with (go_at_call 140;refine(Q _).mono ?_;rintro e w0 ⟨rfl,rfl⟩)
   go_wp2_with (go_at_call 136;refine(R _).mono ?_;rintro e w1 ⟨rfl,nd,rfl⟩)
   go_wp2_with fail
   refine(S _ (by exact((f.alloc _).drewN nd).alloc _)).mono ?_;rintro e Y ⟨rfl,D,g⟩;have wI:wr.grownBy Y (some d):=dI (jI (kQ (World.grownBy_alloc wr _ _) nd) _) g;have E:Bk Y (wr.heap.size+1) 196 #[.int .i64 0,.int .i64 0,.bool (!H)]:=Bk.L g (Bk.newAt _ _ (by simp)) (by simp;omega);have c0:Y.cell? ⟨wr.heap.size+1,0,none⟩=some (.int .i64 0):=E.cell 0;have f0:=E.frozen 0;have Z:=J E;have EP:=J wI;have nO:=J D;clear E wI D g;go_wp2_with fail
   refine(T _ (by exact Bk.I nO (by simp;omega) _)).mono ?_;rintro e j ⟨rfl,F,l⟩;have zC:wr.grownBy j (some d):=dI (aX EP (.inr (by simp)) _) l;have m:Bk j (wr.heap.size+1) 196 #[X,.int .i64 0,.bool (!H)]:=Bk.L l (Z.set 0 _) (by simp;omega);have d0:j.cell? ⟨wr.heap.size+1,0,none⟩=some (.int .i64 X):=m.cell 0;have d1:j.cell? ⟨wr.heap.size+1,1,none⟩=some (.int .i64 0):=m.cell 1;have d2:j.cell? ⟨wr.heap.size+1,2,none⟩=some (.bool (!H)):=m.cell 2;have g1:=m.frozen 1;have z3:=m.lt;have EQ:=J zC;have ou:=J F;clear m zC F l;go_wp2_with (at_builtin;refine jr wT rfl (.tmp 43) (.tmp 45) rfl (j.setCell ⟨wr.heap.size+1,1,none⟩ (.int .i64 v2)) j.heap.size (by simp) W.heap.size k c4 A4 xs #[X,v2,.bool (!H)] rfl rfl rfl (q.kept (aX EQ (.inr (by simp)) _) (dC q f (by decide))) (by simp[Value.oneCell']) (by omega) (by simp;omega) ?_;intro A5 c5 w4 bW aa _)
   go_roundw
   case rel=>exact⟨k+1,by omega,by simp,by rw[P.out,U.out,t.out,V.out];exact lA.next q f HG (Bk.I ou (by simp;omega) _) (aX EQ (.inr (by simp)) _) bW aa (by decide)⟩
   case measure=>simp[intOf];omega
  obtain rfl:k=n:=by omega
  have ht:Hid ((af ws).take k=af ws):=by show _=_;exact oY (by rw[ji,ad.out];exact ae _)
  rw[ht.out]at q r;go_wp2;go_ret
  exact⟨_,rfl,A4,c4,rfl,q,r,s⟩
theorem yx (C p:Nat)(G:Int)(A:Option Addr)(n c:Nat)(ws:List P3)(hT:mB W)(Y:nT<=C)(hR:i8 W C p G)(hw:i7 W 101 A n 3 (dP ws))(hl:∀x∈ws,x.2.2.length<=800000000)(hn:n<=1000000000):
  Calls Tryz.prog 94 #[.pointer (some ⟨C,0,none⟩),.slice A n c] W (QZ 60 2 W C p ((af ws).foldl uH G) n (sS ((af ws).map lD))):=by
 have ad:=J hw.rd.Z;have HR:=J hR;have HW:=J hw;have HL:=J hl;clear hR hw hl;go_enter Tryz.func94,Tryz.ntmps94
 go_wp2;go_loopw [5,16] (λv i wr=>∃k:Nat,k<=n/\i=.int .i64 k/\lA 60 2 W C p (((af ws).take k).foldl uH G) k (sS (((af ws).take k).map lD)) v wr) (λ_ i _=>n - (intOf i).toNat)
 case atStart=>exact⟨0,nz _,rfl,lA.start HR (World.grownBy.refl _ _)⟩
 case round=>
  obtain⟨k,hk,rfl,Z,c4,rfl,B,hr,X⟩:=hrel;by_cases ak:k<n
  .obtain⟨b,o,x,y,z,rfl,hp,q1,q2,q3⟩:=CP HW HR X ak;have hz:z.length<=800000000:=HL _ (vX hp);have hs:=yg hp;have al:=J (JK lD hs);have O:=J (Fa uH G hs);have l:=J hr;have HG:=J X;have ao:=X.size;have ap:C<wr.heap.size:=hr.lt;have H:Hid (sS (((af ws).take k).map lD++[lD z])=sS (((af ws).take k).map lD)++sS [lD z]):=by show _=_;simp[sS]
   rw[<-al.out]at H;generalize sS (((af ws).take k).map lD)=xs at*
   generalize ((af ws).take k).foldl uH G=f at*
   have hy:=nt (Jz 58 z) hz;have aa:=hT.grown X (λg e=>by cases e;exact Y);have P:Hid (∀m,mB ((wr.alloc (.cells #[.int .i64 x,.int .i64 y,.string ⟨z.toArray⟩] 101)).drewN m)):=λm=>aa.below (below_drewN ((gD _ _).alloc (ae _) _) m)
   have Q:=J (λW=>Rx W z 58 hz);have R:Hid (∀W,mB W->_):=J (λW (h:mB W)=>YU W (dH 58 z) h.ops);have a:Hid (uH f z=if hasB 58 z then aP (if f=0/\vI (dH 58 z)=0 then 23 else f) (dZ 58 z)else if f=0/\vI (dH 58 z)=0 then 23 else f):=rfl;have F:Hid (sS [lD z]=[.int .i64 (vI (dH 58 z)),.int .i64 (if hasB 58 z then aI (dZ 58 z)else 0)]):=rfl;have ab:=J (λW f h=>eG W C p f (dZ 58 z) h hy);generalize ac:vI (dH 58 z)=d at*
   clear hp hs hz hr hy X aa ac;by_cases D:d=0
   .have I:Hid ((d !=0)=false):=by show _=_;simp[D]
    have aq:(if f=0/\d=0 then(23:Int)else f)=eC f 23:=by rw[eC];simp[D]
    rw[aq]at a;clear D aq;cases j:hasB 58 z
    .have q:Hid (hasB 58 z=false):=j;rw[j]at a F;have r:Hid (uH f z=eC f 23):=a.out;have s:Hid (sS [lD z]=[.int .i64 d,.int .i64 0]):=F.out;clear j a F;go_wp2_with (go_at_call 136;refine(Q _).mono ?_;rintro e T ⟨rfl,m,rfl⟩;rw[q.out])
     go_wp2_with (go_at_call 137;refine(R _ (by exact P m)).mono ?_;rintro e T ⟨rfl,rfl⟩;rw[I.out])
     go_wp2_with fail
     refine(tX _ C p f 23 (by exact(l.alloc _).drewN m)).mono ?_;rintro e S ⟨rfl,K,L⟩;have U:wr.grownBy S (some C):=dI (kQ (World.grownBy_alloc wr _ _) m) L;have z2:=U.size;have EP:=J U;have nO:=J K;clear U K L;go_wp2_with (at_builtin;refine jr AC rfl (.tmp 43) (.tmp 45) rfl (S.alloc (.cells #[.int .i64 d,.int .i64 0] 60)) (S.heap.size+1) (by simp) W.heap.size k c4 Z xs #[.int .i64 d,.int .i64 0] rfl rfl rfl (B.kept (jI EP _) (dC B l (by decide))) (by simp[Value.oneCell']) (by omega) (by simp;omega) ?_;intro A5 c5 w4 V t _)
     go_roundw
     case rel=>exact⟨k+1,by omega,by simp,by rw[O.out,r.out,H.out,s.out];exact lA.next B l HG (nO.alloc _) (jI EP _) V t (by decide)⟩
     case measure=>simp[intOf];omega
    have q:Hid (hasB 58 z=true):=j;rw[j]at a F;have r:Hid (uH f z=aP (eC f 23) (dZ 58 z)):=a.out;have s:Hid (sS [lD z]=[.int .i64 d,.int .i64 (aI (dZ 58 z))]):=F.out;have w:=J (λW h=>ab W (eC f 23) h);generalize aP (eC f 23) (dZ 58 z)=Ey at*
    generalize aI (dZ 58 z)=v2 at*
    clear j a F;go_wp2_with (go_at_call 136;refine(Q _).mono ?_;rintro e T ⟨rfl,m,rfl⟩;rw[q.out])
    go_wp2_with (go_at_call 137;refine(R _ (by exact P m)).mono ?_;rintro e T ⟨rfl,rfl⟩;rw[I.out])
    go_wp2_with fail
    refine(tX _ C p f 23 (by exact(l.alloc _).drewN m)).mono ?_;rintro e S ⟨rfl,K,L⟩;have U:wr.grownBy S (some C):=dI (kQ (World.grownBy_alloc wr _ _) m) L;have z2:=U.size;have EP:=J U;have nO:=J K;clear U K L;go_wp2_with fail
    refine(w _ (by exact nO.alloc _)).mono ?_;rintro e E ⟨rfl,M,u⟩;have zC:wr.grownBy E (some C):=dI (jI EP _) u;have N:Bk E S.heap.size 60 #[.int .i64 d,.int .i64 0]:=Bk.L u (Bk.new _ _ _) (by omega);have d0:E.cell? ⟨S.heap.size,0,none⟩=some (.int .i64 d):=N.cell 0;have d1:E.cell? ⟨S.heap.size,1,none⟩=some (.int .i64 0):=N.cell 1;have g1:=N.frozen 1;have z3:=N.lt;have EQ:=J zC;have ou:=J M;clear N zC M u;go_wp2_with (at_builtin;refine jr AC rfl (.tmp 43) (.tmp 45) rfl (E.setCell ⟨S.heap.size,1,none⟩ (.int .i64 v2)) E.heap.size (by simp) W.heap.size k c4 Z xs #[.int .i64 d,.int .i64 v2] rfl rfl rfl (B.kept (aX EQ (.inr (by simp;omega)) _) (dC B l (by decide))) (by simp[Value.oneCell']) (by omega) (by simp;omega) ?_;intro A5 c5 w4 V t _)
    go_roundw
    case rel=>exact⟨k+1,by omega,by simp,by rw[O.out,r.out,H.out,s.out];exact lA.next B l HG (Bk.I ou (by simp;omega) _) (aX EQ (.inr (by simp;omega)) _) V t (by decide)⟩
    case measure=>simp[intOf];omega
   have I:Hid ((d !=0)=true):=by show _=_;simpa using D
   have aq:(if f=0/\d=0 then(23:Int)else f)=f:=if_neg (λh=>D h.2);rw[aq]at a;clear D aq;cases j:hasB 58 z
   .have q:Hid (hasB 58 z=false):=j;rw[j]at a F;have r:Hid (uH f z=f):=a.out;have s:Hid (sS [lD z]=[.int .i64 d,.int .i64 0]):=F.out;clear j a F;go_wp2_with (go_at_call 136;refine(Q _).mono ?_;rintro e T ⟨rfl,m,rfl⟩;rw[q.out])
    go_wp2_with (first
     |(go_at_call 137;refine(R _ (by exact P m)).mono ?_;rintro e T ⟨rfl,rfl⟩;rw[I.out])
     |(at_builtin;refine jr AC rfl (.tmp 43) (.tmp 45) rfl ((((wr.alloc (.cells #[.int .i64 x,.int .i64 y,.string ⟨z.toArray⟩] 101)).drewN m)).alloc (.cells #[.int .i64 d,.int .i64 0] 60)) (wr.heap.size+1+1) (by simp) W.heap.size k c4 Z xs #[.int .i64 d,.int .i64 0] rfl rfl rfl (B.kept (jI (kQ (World.grownBy_alloc wr _ _) m) _) (dC B l (by decide))) (by simp[Value.oneCell']) (by omega) (by simp;omega) ?_;intro A5 c5 w4 V t _))
    go_roundw
    case rel=>exact⟨k+1,by omega,by simp,by rw[O.out,r.out,H.out,s.out];exact lA.next B l HG (((l.alloc _).drewN m).alloc _) (jI (kQ (World.grownBy_alloc wr _ _) m) _) V t (by decide)⟩
    case measure=>simp[intOf];omega
   have q:Hid (hasB 58 z=true):=j;rw[j]at a F;have r:Hid (uH f z=aP f (dZ 58 z)):=a.out;have s:Hid (sS [lD z]=[.int .i64 d,.int .i64 (aI (dZ 58 z))]):=F.out;have w:=J (λW h=>ab W f h);generalize aP f (dZ 58 z)=Ey at*
   generalize aI (dZ 58 z)=v2 at*
   clear j a F;go_wp2_with (go_at_call 136;refine(Q _).mono ?_;rintro e T ⟨rfl,m,rfl⟩;rw[q.out])
   go_wp2_with (go_at_call 137;refine(R _ (by exact P m)).mono ?_;rintro e T ⟨rfl,rfl⟩;rw[I.out])
   go_wp2_with fail
   refine(w _ (by exact((l.alloc _).drewN m).alloc _)).mono ?_;rintro e E ⟨rfl,M,u⟩;have zC:wr.grownBy E (some C):=dI (jI (kQ (World.grownBy_alloc wr _ _) m) _) u;have N:Bk E (wr.heap.size+1) 60 #[.int .i64 d,.int .i64 0]:=Bk.L u (Bk.newAt _ _ (by simp)) (by simp;omega);have d0:E.cell? ⟨wr.heap.size+1,0,none⟩=some (.int .i64 d):=N.cell 0;have d1:E.cell? ⟨wr.heap.size+1,1,none⟩=some (.int .i64 0):=N.cell 1;have g1:=N.frozen 1;have z3:=N.lt;have EQ:=J zC;have ou:=J M;clear N zC M u;go_wp2_with (at_builtin;refine jr AC rfl (.tmp 43) (.tmp 45) rfl (E.setCell ⟨wr.heap.size+1,1,none⟩ (.int .i64 v2)) E.heap.size (by simp) W.heap.size k c4 Z xs #[.int .i64 d,.int .i64 v2] rfl rfl rfl (B.kept (aX EQ (.inr (by simp)) _) (dC B l (by decide))) (by simp[Value.oneCell']) (by omega) (by simp;omega) ?_;intro A5 c5 w4 V t _)
   go_roundw
   case rel=>exact⟨k+1,by omega,by simp,by rw[O.out,r.out,H.out,s.out];exact lA.next B l HG (Bk.I ou (by simp;omega) _) (aX EQ (.inr (by simp)) _) V t (by decide)⟩
   case measure=>simp[intOf];omega
  obtain rfl:k=n:=by omega
  have ht:Hid ((af ws).take k=af ws):=by show _=_;exact oY (by rw[ji,ad.out];exact ae _)
  rw[ht.out]at B hr;go_wp2;go_ret
  exact⟨_,rfl,Z,c4,rfl,B,hr,X⟩
section
open Go.Sort
theorem pT.len {n:Nat}{c:Nat}(h:pT w l n x c a):n=l.length:=h.1
theorem zL (l g:Nat)(d:Nat->Value)(a first:B)(A:Option Addr)(c n:Nat)(k:List B)(i:n=k.length)(h:Pr W l g d a)(j:Sl rt 1 W (FT W) A k)(b:a.length+(aJ first k).length<=1000000000000/\k.length<=1000000000000):
  Calls Tryz.prog 19 #[.pointer (g,0),.string first,A n c] W λe f=>e=.returned (.tuple #[])/\Pr f l g d (a++aJ first k)/\KP W f/\Below l W f:=by
 subst i;exact Ie W l g d a first A c k h j b.1 b.2
theorem JV (Bd g:Nat)(T:Nat->Value)(m:B)(A0 B1 B2 B3 B4:Option Addr)(c0 d1 d2 d3 d4:Nat)(p G ahead:List (List Int))(H:List Int)(a:List Call)(x:Int)(C D E so:List B)(hp:Pr W Bd g T m)(M:Bd<=W.heap.size)(S0:Hid (∀w',Below W.heap.size W w'->Calls Tryz.prog 114 #[.pointer (g,0),A0 p.length c0] w' (yt w' C)))(S1:Hid (∀w',Below W.heap.size W w'->Calls Tryz.prog 114 #[.pointer (g,0),B1 G.length d1] w' (yt w' D)))(S2:Hid (∀w',Below W.heap.size W w'->Calls Tryz.prog 114 #[.pointer (g,0),B2 ahead.length d2] w' (yt w' E)))(hW:C.length+D.length+E.length+so.length+3<=10000000000)(aR:Int)(hk:((aR=1\/aR=2\/aR=3\/aR=5)/\Hid (∀w',Below W.heap.size W w'->Calls Tryz.prog 115 #[.pointer (g,0),B3 H.length d3] w' (yt w' so)))\/(aR=6/\∃U,so=[U]/\Hid (∀w',Below W.heap.size W w'->Calls Tryz.prog 20 #[x] w' λe aq=>e=.returned (.string ⟨U.toArray⟩)/\Below w'.heap.size w' aq))\/((aR==1)=false/\(aR==2)=false/\(aR==3)=false/\(aR==4)=false/\(aR==5)=false/\(aR==6)=false/\so=[])\/(aR=4/\iN W/\Sl mo 2 W (FT W) B4 a/\a.length<=so.length/\Hid (so=a.map (λc=>ag c.iB++58::ag c.lookup))))(w:List B)(HE:Hid (w=C++[[47]]++D++[[47]]++E++[[62]]++so))(HL:Hid (m.length+(aJ ku (C++[[47]]++D++[[47]]++E++[[62]]++so)).length<=1000000000000/\(C++[[47]]++D++[[47]]++E++[[62]]++so).length<=1000000000000)):
  Calls Tryz.prog 68 #[.pointer (g,0),aR,.agg #[A0 p.length c0,B1 G.length d1,B2 ahead.length d2,B3 H.length d3,B4 a.length d4,x]] W
   λe w'=>e=.returned (.tuple #[])/\Pr w' Bd g T (m++aJ ku w)/\KP W w'/\Below Bd W w':=by
 rcases hk with⟨hk,S3⟩|⟨rfl,U,rfl,S6⟩|⟨h1,h2,h3,h4,h5,h6,rfl⟩|⟨rfl,V,hC,aQ,HS⟩;rcases hk with rfl|rfl|rfl|rfl
 all_goals
  go_enter Tryz.func68,Tryz.ntmps68
  go_wp2_with fail
  obtain⟨f,h⟩:∃f,W.alloc (.cells #[A0 p.length c0,B1 G.length d1,B2 ahead.length d2,B3 H.length d3,B4 a.length d4,x] 69)=f:=⟨_,rfl⟩
  rw[h];have d:Below W.heap.size W f:=by rw[<-h];exact(gD _ _).alloc (ae _) _
  have k1:f.cell? ⟨W.heap.size,1,none⟩=some (B1 G.length d1):=by rw[<-h];simp[go_sem]
  have k2:f.cell? ⟨W.heap.size,2,none⟩=some (B2 ahead.length d2):=by rw[<-h];simp[go_sem]
  have k3:f.cell? ⟨W.heap.size,3,none⟩=some (B3 H.length d3):=by rw[<-h];simp[go_sem]
  have k4:f.cell? ⟨W.heap.size,4,none⟩=some (B4 a.length d4):=by rw[<-h];simp[go_sem]
  have k5:f.cell? ⟨W.heap.size,5,none⟩=some (.int .i64 x):=by rw[<-h];simp[go_sem]
  clear h;refine(S0.out _ d).mono ?_;rintro e w1 ⟨A1,c1,rfl,o1,b1⟩;have N1:pT f C C.length A1 c1 w1:=⟨rfl,o1,b1⟩
  have z1:=b1.size;have oG:True:=trivial;have Gy:True:=trivial;have PV:True:=trivial;have X:True:=trivial;have Y:True:=trivial;have Z:True:=trivial;have aa:True:=trivial;have ab:True:=trivial;have ac:True:=trivial;go_wp2_with (first
   |(at_builtin;have _t:=oG;refine kF rfl (.tmp 13) (.tmp 14) rfl w1 f.heap.size _ c1 A1 _ [47] rfl rfl o1 (by omega) (by omega) ?_;intro A2 c2 w2 p2 g2;clear _t oG;have N2:=N1.next (us:=[[47]]) (gD _ _) p2 g2;have o2:=N2.2.1;have b2:=N2.2.2;have z2:=b2.size;have aW:=ah b2 k1)
   |(go_at_call 114;have _t:=Gy;refine(S1.out _ (bt d b2)).mono ?_;rintro e w3 ⟨A3,c3,rfl,o3,b3⟩;clear _t Gy;have z3:=b3.size)
   |(at_builtin;have _t:=PV;refine G8 rfl (.tmp 16) (.tmp 20) rfl w3 f.heap.size _ c2 A2 _ w3.heap.size A3 _ c3 D rfl rfl (gj o2 b3) (Ce o3 rfl) (by omega) (by omega) ?_;intro A4 c4 w4 p4 g4;clear _t PV;have N4:=N2.next (us:=D) b3 p4 g4;have o4:=N4.2.1;have b4:=N4.2.2;have z4:=b4.size)
   |(at_builtin;have _t:=X;refine kF rfl (.tmp 22) (.tmp 23) rfl w4 f.heap.size _ c4 A4 _ [47] rfl rfl o4 (by omega) (by omega) ?_;intro A5 c5 w5 p5 g5;clear _t X;have N5:=N4.next (us:=[[47]]) (gD _ _) p5 g5;have o5:=N5.2.1;have b5:=N5.2.2;have z5:=b5.size;have a0:=ah b5 k2)
   |(go_at_call 114;have _t:=Y;refine(S2.out _ (bt d b5)).mono ?_;rintro e w6 ⟨A6,c6,rfl,o6,b6⟩;clear _t Y;have z6:=b6.size)
   |(at_builtin;have _t:=Z;refine G8 rfl (.tmp 25) (.tmp 29) rfl w6 f.heap.size _ c5 A5 _ w6.heap.size A6 _ c6 E rfl rfl (gj o5 b6) (Ce o6 rfl) (by omega) (by omega) ?_;intro A7 c7 w7 p7 g7;clear _t Z;have N7:=N5.next (us:=E) b6 p7 g7;have o7:=N7.2.1;have b7:=N7.2.2;have z7:=b7.size)
   |(at_builtin;have _t:=aa;refine kF rfl (.tmp 31) (.tmp 32) rfl w7 f.heap.size _ c7 A7 _ [62] rfl rfl o7 (by omega) (by omega) ?_;intro A8 c8 w8 p8 g8;clear _t aa;have N:=N7.next (us:=[[62]]) (gD _ _) p8 g8;have o8:=N.2.1;have I:=N.2.2;have z8:=I.size;have a3:=ah I k3;have a4:=ah I k4;have a5:=ah I k5)
   |(go_at_call 115;have _t:=ab;refine(S3.out _ (bt d I)).mono ?_;rintro e w9 ⟨A9,c9,rfl,o9,q⟩;clear _t ab;have z9:=q.size)
   |(at_builtin;have _t:=ac;refine G8 rfl (.tmp 40) (.tmp 44) rfl w9 f.heap.size _ c8 A8 _ w9.heap.size A9 _ c9 so rfl rfl (gj o8 q) (Ce o9 rfl) (by omega) (by omega) ?_;intro Kz ar ad r O;clear _t ac;have F:=N.next (us:=so) q r O;have K:=F.2.1;have j:=F.2.2)
   |(go_at_call 20;refine(S6.out _ (bt d I)).mono ?_;rintro e w9 ⟨rfl,q⟩;have z9:=q.size)
   |(at_builtin;refine kF rfl (.tmp 69) (.tmp 73) rfl w9 f.heap.size _ c8 A8 _ U rfl rfl (gj o8 q) (by omega) (by omega) ?_;intro Kz ar ad r O;have F:=N.next (us:=[U]) q r O;have K:=F.2.1;have j:=F.2.2)
   |(go_at_call 19;((with_reducible refine(zL _ Bd g T m ku Kz ar _ _ F.len (hp.below (bt d j)) (vJ K) HL.out).mono ?_);rintro e wz ⟨rfl,s,t,u⟩))
   |(go_at_call 19;((with_reducible refine(zL _ Bd g T m ku A8 c8 _ _ N.len (hp.below (bt d I)) (vJ o8) (by have:=HL.out;rwa [pp]at this)).mono ?_);rintro e wz ⟨rfl,s,t,u⟩)))
 any_goals first
  |(go_end0;refine⟨rfl,?_,(KP.below (bt d j)).trans t,((bt d j).mono M).trans u⟩;rw[HE.out];simpa [aJ]using s;done)
  |(go_end0;refine⟨rfl,?_,(KP.below (bt d I)).trans t,((bt d I).mono M).trans u⟩;rw[HE.out];simpa [aJ]using s;done)
 obtain⟨ak,P⟩:∃ak,ak=w8:=⟨_,rfl⟩
 have Q:=N;rw[<-P]at Q;go_loopw [6,51] (λv i wr=>∃k n A c,k<=a.length/\i=.int .i64 (k:Nat)/\v=.slice A n c/\n<=C.length+1+D.length+1+E.length+1+k/\pT f (C++[[47]]++D++[[47]]++E++[[62]]++(a.take k).map (λc=>ag c.iB++58::ag c.lookup)) n A c wr) (λ_ i _=>a.length - (intOf i).toNat)
 case atStart=>exact⟨0,_,A8,c8,nz _,rfl,rfl,by omega,by simpa using N⟩
 case round=>
  obtain⟨k,n,A9,c9,hk,rfl,rfl,a6,N9⟩:=hrel;have q:=N9.2.2;have o9:=N9.2.1;have z9:=q.size;have SA:=bt d q;by_cases av:k<a.length
  .obtain⟨b,o,x',rfl,-,hx,e0,e1,r0,r1⟩:=((KP.below SA).sl mo.ok hC).call av;have aw:=J (pJ (λc:Call=>ag c.iB++58::ag c.lookup) a k x' hx.out);generalize al:C++[[47]]++D++[[47]]++E++[[62]]++(a.take k).map (λc=>ag c.iB++58::ag c.lookup)=ws at*
   have ay:=J al;obtain⟨x0,x1⟩:=x';dsimp only at e0 e1 r0 r1;have aD:=V.all SA;have n0:=J (λW V=>bi W x0 V r0);have n1:=J (λW V=>bi W x1 V r1);have l0:=wK r0;have l1:=wK r1;generalize ag x0=t0 at*
   generalize ag x1=t1 at*
   obtain⟨u1,a1,m1,U1⟩:=yZ t0 [58] (by omega) (by simp);obtain⟨u2,a2,m2,U2⟩:=yZ u1 t1 (by simp only[aV,ln]at m1;omega) (by omega);simp only[aV,ln]at m1;have ao:Hid (some wr.heap.size≠(Value.slice A9 n c9).ownBlock):=λe=>by have:=(o9.lt _ e.symm).2;omega
   have aE:n+1<=1000000000000:=by omega
   clear hx al r0 r1 P Q;go_wp2_with fail
   obtain⟨W1,y⟩:∃W1,wr.alloc (.cells #[x0,x1] 71)=W1:=⟨_,rfl⟩
   rw[y];have L:Below wr.heap.size wr W1:=by rw[<-y];exact(gD _ _).alloc (ae _) _
   have ap:=aD.all L;have R:W1.cell? ⟨wr.heap.size,0,none⟩=some (.int .i64 x0):=by rw[<-y];simp[go_sem]
   have L9:W1.cell? ⟨wr.heap.size,1,none⟩=some (.int .i64 x1):=by rw[<-y];simp[go_sem]
   have UV:=L.size;clear y e0 e1
   go_region_held3 (λw'=>w'.cell? ⟨wr.heap.size,0,none⟩=some (.int .i64 x0)/\w'.cell? ⟨wr.heap.size,1,none⟩=some (.int .i64 x1))
    (first
     |exact⟨uI S (ah l R) ao.out,uI S (ah l L9) ao.out⟩
     |exact⟨ah l R,ah l L9⟩
     |exact⟨ah z R,ah z L9⟩
     |go_keep)
    (first
     |(go_at_call 20;refine(n0.out _ ap.drew).mono ?_;rintro e v1 ⟨rfl,aL⟩;have z:=lC aL)
     |(go_at_call 20;refine(n1.out _ (ap.all z)).mono ?_;rintro e v2 ⟨rfl,aM⟩;have l:=bt z aM;have y2:=l.size)
     |(refine PO (by rfl) (.tmp 55) (.tmp 64) (by rfl) v2 v2.heap.size rfl f.heap.size n c9 1 A9 _ [u2] rfl (by go_simp) (by go_simp) (gj o9 (bt L l)) aE (nt z9 (nt UV y2)) ?_;intro Kz ar ad r S))
   have F:=N9.next (us:=[u2]) (bt L l) r S;go_wp2;go_roundw
   case rel=>refine⟨k+1,n+1,Kz,ar,by omega,by simp,rfl,by omega,?_⟩;rw[<-ay.out]at F;rw[aw.out];rw[U2.out,U1.out]at F;simpa using F
   case measure=>simp[intOf];omega
  obtain rfl:k=a.length:=by omega
  rw[lf,<-HS.out]at N9;have K:=N9.2.1;have aN:=J N9.1;clear P Q o9 q;go_wp2_with (go_at_call 19;((with_reducible refine(zL _ Bd g T m ku A9 c9 _ _ aN.out (hp.below SA) (vJ K) HL.out).mono ?_);rintro e wz ⟨rfl,s,t,u⟩))
  go_end0
  refine⟨rfl,?_,(KP.below SA).trans t,(SA.mono M).trans u⟩;rw[HE.out];simpa [aJ]using s
end
theorem Gb (n:Int)(h: -9223372036854775808<=n/\n<=9223372036854775807):(ag n).length<=20:=by
 have a:∀u:Nat,u<=9223372036854775808->(Lib.decDigits u).length<=19:=λu b=>by
  rw[Lib.decDigits_length];exact WR 18 u (by show u<10000000000000000000;omega)
 unfold ag Lib.itoa;split
 .have:=a n.natAbs (by omega);rw[aV];omega
 have:=a n.toNat (by omega);omega
theorem wu (n:Int)(h: -9223372036854775808<=n/\n<=9223372036854775807):(ai n).length<=21:=by have:=Gb n h;unfold ai;simp;omega
theorem jL {n:Int}(h:N9 n):(ai n).length<=21:=wu n (by unfold N9 at h;omega)
theorem XZ {k:Nat}{n:Int}(c:k<=1000)(h:In k n):(ai n).length<=21:=wu n (by obtain⟨a,b⟩:=h;omega)
theorem RG {k:Nat}(h:k<=1000000):(ai (k:Int)).length<=21:=wu _ (by omega)
theorem OH (b:Bool):(zX b).length=2:=by cases b<;>rfl
theorem Cj (a:U.length<=1000)(h:∀n∈U,(ai n).length<=21):(ju U).length<=21021:=by have b:=qX U ai 21 1000 h a;have c:=RG (k:=U.length) (by omega);unfold ju;rw[la];omega
theorem JS (b:n.length<=1000)(h:∀s∈n,s.length<=1000/\∀l∈s,(ai l).length<=21):(mW n).length<=21021021:=by have c:=qX n ju 21021 1000 (λs a=>Cj (h s a).1 (h s a).2) b;have d:=RG (k:=n.length) (by omega);unfold mW;rw[la];omega
theorem Rq {l:List Ins}(d:l.length<=1000)(h:nI l):(gJ l).length<=42021:=by
 have e:=qX l sU 42 1000 (λi hi=>by
  obtain⟨a,b,c⟩:=h i hi;have e:=wu i.op (by omega);have f:=jL c;unfold sU;rw[la];omega) d
 have f:=RG (k:=l.length) (by omega);unfold gJ;rw[la];omega
theorem F8 (h:hZ z=true):(vC z).length<=38:=by have a:=oM h;have b:=RG (k:=z.length) (by omega);unfold vC;simp only[la,aV,ln];omega
theorem jf (l:List α)(f:α->B)(k:Nat)(a:l.length<=1000)(h:∀x∈l,(f x).length<=k):(ai (l.length:Int)++l.flatMap f).length<=1000*k+21:=by have b:=qX l f k 1000 h a;have c:=RG (k:=l.length) (by omega);rw[la];omega
structure BT (g:hU):Prop where
 h:g.gk.length<=1000
 gO:g.gO.length<=1000
 gi:g.gi.length<=1000
 M:g.gh.length<=1000
 o:g.gx.length<=1000
 gR:g.gR.length<=1000
structure BV (r:k'):Prop where
 rows:r.gE.length<=1000/\r.ij.length<=1000/\r.ahead.length<=1000
 outs:r.out.length<=1000/\r.gw.length<=1000
structure xp (f:iu):Prop where
 ga:f.ga.length<=1000/\∀g∈f.ga,BT g
 f6:f.f6.length<=1000
 ge:f.ge.length<=1000/\∀l∈f.ge,l.gC.length<=1000/\∀r∈l.gC,BV r
 k:f.a'.length<=1000/\∀x∈f.a',x.ge.length<=1000
 gM:f.gM.length<=1000
 e:f.d'.length<=1000/\∀r∈f.d',r.kB.length<=1000
 fY:f.fY.length<=1000/\∀p∈f.fY,p.length<=1000
 gP:f.gP.length<=1000
theorem vn.cap (h:vn k):xp k:=
 {ga:=⟨by have:=h.ga.1;omega,λg c=>by have:=h.ga.2 g c;exact⟨by have:=this.h;omega,by have:=this.gO;omega,by have:=this.gi;omega,by have:=this.M;omega,by have:=this.o;omega,by have:=this.gR;omega⟩⟩
  f6:=by have:=h.f6;omega
  ge:=⟨by have:=h.ge.1;omega,λl b=>⟨by have:=(h.ge.2 l b).1;omega,λr d=>by have:=(h.ge.2 l b).2 r d;exact⟨⟨by have:=this.rows;omega,by have:=this.rows;omega,by have:=this.rows;omega⟩,⟨by have:=this.outs;omega,by have:=this.outs;omega⟩⟩⟩⟩
  k:=⟨by have:=h.k.1;omega,λx a=>by have:=h.k.2 x a;omega⟩
  gM:=by have:=h.gM;omega
  e:=⟨by have:=h.e.1;omega,λx a=>by have:=h.e.2 x a;omega⟩
  fY:=⟨by have:=h.fY.1;omega,λx a=>by have:=h.fY.2 x a;omega⟩
  gP:=by have:=h.gP;omega}
theorem Yg {n:Nat}(o:n<=1000)(h:rl n p)(j:BT p):(fH p).length<=400000:=by
 have s:=F8 h.gn;have t:=jL h.oo;have u:=OH p.i6;have v:=jf p.gk ug 44 j.h (λg i=>by
  have a:=jL (h.h g i).1;have b:=jL (h.h g i).2;have c:=OH g.on;unfold ug;simp only[la];omega)
 have he:∀(k:List Int) l f,f<=1000->jM l k f->∀e∈k,(ai e).length<=21:=by
  intro k;induction k with
  |nil=>intro l f _ _ e he;simp at he
  |cons x w q=>
   intro l f r m e he;obtain⟨a,b,c⟩:=m;rw[lx]at he;rcases he with rfl|he
   .exact wu _ (by omega)
   exact q _ _ r c e he
 have y:=Cj j.gO (he p.gO 0 _ j.h h.gO);have z:=jf p.gi jY 63 j.gi (λg i=>by
  have:=h.gi g i;have a:=XZ o this.1;have b:=jL this.2.1;have c:=jL this.2.2;unfold jY;simp only[la];omega)
 have A:=jf p.gh jS 84 j.M (λg i=>by
  have:=h.M g i;have a:=wu g.gd (by omega);have b:=jL this.2.2.1;have c:=jL this.2.2.2.1;have d:=jL this.2.2.2.2;unfold jS;simp only[la];omega)
 have B:=jf p.gx nS 84 j.o (λg i=>by
  have:=h.o g i;have a:=jL this.1;have b:=jL this.2.1;have c:=jL this.2.2.1;have d:=jL this.2.2.2;unfold nS;simp only[la];omega)
 have C:=Rq j.gR h.gR;unfold fH xf TZ Q5 XX;simp only[la]at*
 omega
theorem FH {n:Nat}{k:Int}{r:k'}(j:n<=1000)(h:qw n k r)(f:BV r):(jJ r).length<=64000000:=by
 have e:∀s,pf n s->s.length<=1000/\∀x∈s,(ai x).length<=21:=λs e=>⟨by have:=WX e;omega,λx i=>XZ j (e.2 x i)⟩
 have l:=JS f.rows.1 (λs d=>e s (h.gE s d));have m:=JS f.rows.2.1 (λs d=>e s (h.ij s d));have o:=JS f.rows.2.2 (λs d=>e s (h.ahead s d));have p:=Cj f.outs.1 (λx i=>XZ j (h.out x i));have q:=jf r.gw jU 42 f.outs.2 (λc g=>by
  have a:=jL (h.gw c g).1;have b:=jL (h.gw c g).2;unfold jU;simp only[la];omega)
 have t:=jL h.x;unfold jJ Lu;simp only[la]at*
 omega
theorem Cs (h:sd k)(e:xp k):(nZ k).length<=100000000000000:=by
 have v:=jL h.gt;have w:=jf k.ga fH 400000 e.ga.1 (λg o=>Yg h.i (h.ga g o) (e.ga.2 g o));have y:=jf k.f6 nR 42 e.f6 (λc j=>by
  have a:=jL (h.f6 c j).1;have b:=XZ h.i (h.f6 c j).2;unfold nR;simp only[la];omega)
 have z:=jf k.ge iY 64000000044 e.ge.1 (λl f=>by
  have a:=wu l.gd (by have:=h.ge l f;omega);have b:=OH l.nj;have c:=jf l.gC jJ 64000000 (e.ge.2 l f).1 (λr q=>FH h.i ((h.ge l f).2.2 r q) ((e.ge.2 l f).2 r q));unfold iY Ux;simp only[la]at*
  omega)
 have A:=jf k.a' jV 21059 e.k.1 (λx i=>by
  have a:=F8 (h.k x i).1;have b:=Cj (e.k.2 x i) (λn m=>jL ((h.k x i).2 n m));unfold jV;simp only[la];omega)
 have B:=jf k.gM jT 101 e.gM (λx i=>by
  obtain⟨a,b,c,d⟩:=h.gM x i;have a:=F8 a;have b:=jL b;have c:=jL c;have d:=jL d;unfold jT;simp only[la];omega)
 have C:=jf k.d' oh 63021 e.e.1 (λx i=>by
  have:=jf x.kB lJ 63 (e.e.2 x i) (λt u=>by
   obtain⟨a,b,c⟩:=h.e x i t u;have a:=jL a;have b:=jL b;have c:=jL c;unfold lJ;simp only[la];omega)
  unfold oh Gw;exact this)
 have D:=jf k.fY gJ 42021 e.fY.1 (λp s=>Rq (e.fY.2 p s) (h.fY p s));have E:=Cj e.gP (λn m=>jL (h.gP n m));unfold nZ NC XR Tu RJ XO Ze RZ;simp only[la]at*
 omega
def nX (i:Nat):B:=if i=0 then [46,110,111,116,100,101,102]else [103,(97+i).toUInt8]
theorem Tp:∀i:Fin 10,hZ (nX i.val)=true:=by decide
theorem Kn:∀k:Fin 11,((List.range k.val).map nX).Nodup:=by decide
def F9 (i:Nat):B:=[97,120,(97+i).toUInt8]
theorem R5:∀i:Fin 3,hZ (F9 i.val)=true:=by decide
structure pP (k:Nat)(p:List Pt)(e:List Int):Prop where
 h:∀x∈p,N9 x.x/\N9 x.y
 gO:jM 0 e p.length
 i:p.length<=5*k/\e.length=k
theorem U0 (f:List Int):∀(d n k:Nat),jM d f n->1<=k->jM d (f++[((n+k:Nat):Int) - 1]) (n+k):=by
 induction f with
 |nil=>intro d n k h g;have h:d=n:=h;refine⟨by omega,by omega,?_⟩;show _=_;omega
 |cons e r i=>intro d n k h g;obtain⟨a,b,c⟩:=h;exact⟨a,by omega,i _ _ _ c g⟩
theorem pP.nil:pP 0 [] []:=⟨by simp,rfl,by simp⟩
theorem pP.snoc {k:Nat}{p:List Pt}(h:pP k p U){q:List Pt}(a:∀x∈q,N9 x.x/\N9 x.y)(b:1<=q.length)(d:q.length<=5)(c:u=((p.length+q.length:Nat):Int) - 1):pP (k+1) (p++q) (U++[u]):=by
 subst c;refine⟨λx hx=> ?_,?_,?_⟩
 .rw[jp]at hx;rcases hx with hx|hx
  .exact h.h x hx
  exact a x hx
 .rw[la];exact U0 _ _ _ _ h.gO b
 have:=h.i;simp only[la,aV,ln];omega
structure py (n:Nat)(s:List Int):Prop where
 set:pf n s
 i:s.length<=4
theorem py.one {n:Nat}(h:In n u):py n [u]:=⟨⟨by simp,λx b=>by simp only[js]at b;subst b;exact h⟩,by simp⟩
theorem py.snoc {n:Nat}(h:py n U)(e:In n u)(c:∀x∈U,x<u)(f:U.length<4):py n (U++[u]):=by
 refine⟨⟨?_,λx b=> ?_⟩,by simp;omega⟩
 .rw[List.pairwise_append];exact⟨h.set.1,by simp,λx b y d=>by simp only[js]at d;subst d;exact c x b⟩
 rw[jp,js]at b;rcases b with b|rfl
 .exact h.set.2 x b
 exact e
structure li (n k:Nat)(l:List (List Int)):Prop where
 N:∀s∈l,py n s
 i:l.length<=k
theorem li.nil (n k:Nat):li n k []:=⟨by simp,nz _⟩
theorem li.app {n k j:Nat}{a b:List (List Int)}(h:li n k a)(g:li n j b):li n (k+j) (a++b):=by
 refine⟨λs hs=> ?_,by have:=h.i;have:=g.i;rw[la];omega⟩;rw[jp]at hs;rcases hs with hs|hs
 .exact h.N s hs
 exact g.N s hs
theorem li.one {n:Nat}(h:py n U):li n 1 [U]:=⟨λx a=>by simp only[js]at a;subst a;exact h,by simp⟩
theorem li.mono {n k j:Nat}{a:List (List Int)}(h:li n k a)(b:k<=j):li n j a:=⟨h.N,nt h.i b⟩
structure mu (n:Nat)(gd:Int)(r:k'):Prop where
 right:qw n gd r
 small:yo r
theorem mu.mk' {n:Nat}{r:k'}(b:li n 3 r.gE)(hi:li n 3 r.ij)(d:li n 3 r.ahead)(e:(∀x∈r.out,In n x)/\r.out.length<=4)(f:(∀c∈r.gw,N9 c.iB/\N9 c.lookup)/\r.gw.length<=2)(g:N9 r.x)(h:u=1\/u=5->∃s,r.ij=[s]/\r.out.length=s.length)(i:u=4\/6<=u->r.out=[])(j:u≠4->r.gw=[])(k:u≠6->r.x=0):mu n u r:=
 ⟨{gE:=λs a=>(b.N s a).set,ij:=λs a=>(hi.N s a).set,ahead:=λs a=>(d.N s a).set,out:=e.1,gw:=f.1,x:=g,one:=h,outs:=i,uW:=j,u':=k},
 {rows:=⟨b.i,hi.i,d.i⟩,N:=⟨λs a=>(b.N s a).i,λs a=>(hi.N s a).i,λs a=>(d.N s a).i⟩,outs:=⟨e.2,f.2⟩}⟩
structure tU (n:Nat)(l:gH):Prop where
 gd:1<=l.gd/\l.gd<=8
 gC:∀r∈l.gC,mu n l.gd r
 i:l.gC.length<=3
structure rr (i:Nat)(g:hU):Prop where
 gn:g.gn=nX i
 right:rl 2 g
 small:yn g
theorem rl.mono {n k:Nat}(h:rl n p)(c:n<=k):rl k p:=
 have a:∀g∈p.gi,In k g.z/\N9 g.x/\N9 g.y:=λg a=>by
  have b:=h.gi g a;exact⟨⟨b.1.1,by have:=b.1.2;omega⟩,b.2⟩
 {h with gi:=a}
structure tP (f:iu):Prop where
 right:sd f
 small:vn f
 two:0<f.ga.length
theorem DS (h:∀i g,A[i]?=some g->rr i g):A.map (·.gn)=(List.range A.length).map nX:=by
 apply List.ext_getElem?;intro i;rw[po,po];by_cases hi:i<A.length
 .have e:=jO hi;rw[e,List.getElem?_range hi];simp only[Option.map_some,n'];exact(h i _ e).gn
 rw[qn (by omega),qn (by rw[List.length_range];omega)];rfl
theorem Pc (y:N9 k.gt)(v:(∀a∈k.gM,hZ a.gn=true/\N9 a.km/\N9 a.kA/\N9 a.kv)/\k.gM.length<=2)(b:(∀r∈k.d',(∀t∈r.kB,N9 t.start/\N9 t.jx/\N9 t.jz)/\r.kB.length<=2)/\k.d'.length<=3)(w:(∀n∈k.gP,N9 n)/\k.gP.length<=3)(o:(∀p∈k.fY,nI p/\p.length<=60)/\k.fY.length<=2)(q:(∀i g,k.ga[i]?=some g->rr i g)/\2<=k.ga.length/\k.ga.length<=10)(e:(∀c∈k.f6,N9 c.jN/\In k.ga.length c.z)/\k.f6.length<=16)(m:(∀l∈k.ge,tU k.ga.length l)/\k.ge.length<=6)(d:(∀x∈k.a',(hZ x.gn=true/\∀n∈x.ge,N9 n)/\x.ge.length<=6)/\k.a'.length<=8):tP k:=by
 obtain⟨j,s,u⟩:=q;have f:∀g∈k.ga,∃i,rr i g:=λg q=>by
  obtain⟨i,hi⟩:=pn.1 q;exact⟨i,j i g hi⟩
 refine⟨{gt:=y,gM:=v.1,e:=λr h=>(b.1 r h).1,gP:=w.1,fY:=λp h=>(o.1 p h).1,apart:= ?_,ga:=λg h=> ?_,f6:=e.1,ge:=λl h=> ?_,k:=λx h=>(d.1 x h).1,i:=by omega},{ga:=⟨u,λg h=> ?_⟩,f6:=e.2,ge:=⟨m.2,λl h=>⟨(m.1 l h).i,λr b=>((m.1 l h).gC r b).small⟩⟩,k:=⟨d.2,λx h=>(d.1 x h).2⟩,gM:=v.2,e:=⟨b.2,λr h=>(b.1 r h).2⟩,fY:=⟨o.2,λp h=>(o.1 p h).2⟩,gP:=w.2},by omega⟩
 .rw[DS j];exact Kn ⟨k.ga.length,by omega⟩
 .obtain⟨i,hi⟩:=f g h;exact hi.right.mono s
 .have:=m.1 l h;exact⟨this.gd.1,this.gd.2,λr b=>(this.gC r b).right⟩
 obtain⟨i,hi⟩:=f g h;exact hi.small
theorem YG {l:List (String×DataW Unit)}(h:laidMet Tryz.prog l w)(a:("fleuron/parse.opNames",Rows.laid_fleuron_parse_opNames)∈l)(b:("fleuron/parse.anchorNames",Rows.laid_fleuron_parse_anchorNames)∈l)(c:("fleuron/parse.lookupNames",Rows.laid_fleuron_parse_lookupNames)∈l):mB w∧nT≤w.heap.size:=
 ⟨⟨uk (kP h a) (by kernel_rfl) (by kernel_rfl) Tryz.underlying125 Tryz.underlying9 (by kernel_rfl) (by kernel_rfl),
 uk (kP h b) (by kernel_rfl) (by kernel_rfl) Tryz.underlying180 Tryz.underlying9 (by kernel_rfl) (by kernel_rfl),
 uk (kP h c) (by kernel_rfl) (by kernel_rfl) Tryz.underlying181 Tryz.underlying9 (by kernel_rfl) (by kernel_rfl)⟩,
 Ay (kP h a) (by kernel_rfl)⟩
