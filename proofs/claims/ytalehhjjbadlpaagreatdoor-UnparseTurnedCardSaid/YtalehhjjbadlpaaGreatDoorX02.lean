/- Lemmas. -/
import Derived.Test.YtalehhjjbadlpaaGreatDoorX00
import Derived.Test.YtalehhjjbadlpaaGreatDoorProg
import Derived.BigQuiet
import Derived.RangeFuncNested
import Derived.RangeFuncBound
import Derived.Shelf.Abstract
import Derived.Deep.Slices
import Derived.ProofKit
import Derived.OpenShut
import Derived.Lib.ItoaNum
import Derived.Lib.MinMax
import Derived.WalkSpells
import Derived.Lib.IndexLaws
set_option linter.all false
set_option maxRecDepth 100000
set_option maxHeartbeats 32000000
namespace Go.Proofs.YtalehhjjbadlpaaGreatDoor
open Go.RowKit
variable{a r C:World}{v:Option Addr}{i g:Nat}{t o:TypeId}{m:List Value}{u:List (List P3)}{V:Array Value}{d h:Value}{j:Exit->Act->World->Prop}{s:List P3}{T:Nat->Prop}(p:World){x y:List Bool}{G:Program}{K:List Int}{L:Act}
structure iX (S:World->Prop) where
 w:World
 ok:S w
theorem dB {l:List Oper}(S:World->Prop)(b:G.follows .mixedOrders=true)(c:Region.lexB .any l.toArray=true)(d:S {a with drawn:=a.drawn+1})(h:wpQuiet G l.toArray (λw'=>∃x:iX S,w'=x.w) (λe=>∀w',(∃x:iX S,w'=x.w)->j .normal e w') l L):(Code.region i l.toArray true).wp G j L a:=
 wp_region_quiet (C:=λw'=>∃x:iX S,w'=x.w) b c ⟨⟨_,d⟩,rfl⟩ h
section
open Go.Shelf
def MD {α:Type}(b:List α->World->Prop)(d:List α->Prop)(R:World->World->Prop)(l:Nat)(c:List α)(W:World)(e:Ending)(a:World):Prop:=
 (e=.returned (.bool true)/\b c a/\R W a/\KeepsOthers W a)\/
 (e=.returned (.bool false)/\d c/\W.heap.size<=a/\∀(j:Nat) (o:Obj),j≠l->W.heap[j]?=some o->o.isCells=false->a.heap[j]?=some o)
def ZN {α:Type}(P:Program)(i j:Nat)(k:Array Value)(c:α->Array Value)(R:World->World->Prop)(S:List α->World->Prop)(Sp:List α->Prop)(N:Nat)(w:World):Prop:=
 ∀(l n:Nat) (h:List α->World->Prop) (d:List α->Prop) (W:World),8<=n->l<W->Below w w W->OwnFrom W.heap.size h->(∀a b v,h a b->h a (b.setCell (i,0) v))->
  (∀a x b,h a b->a.length<N->YieldAt Fence.wide 0 P l (c x) b (MD h d R l (a++[x]) b))->h [] W->
  CallsIn Fence.wide n P j (#[.func (.yield l) #[] #[]]++k) W λe f=>(∃v,e=.returned v)/\((∃g,S g f/\h g f)\/(∃a,Sp a/\d a))
def LB {α:Type}(I:List α->World->Prop)(c:List α->Prop)(R:World->World->Prop)(b:List α)(W:World):Exit->Act->World->Prop
 | .normal,_,a=>I b a/\R W a/\KeepsOthers W a
 | .ret,_,a=>c b/\KeepsOthers W a
 |_,_,_=>False
theorem MV {α:Type}{g:Operand}{ps:Array Tmp}{assign body:Code}{n cs gf:Nat}{lb:Array Value}(hn:9<=n)(hg:L.eval g=.func (.func gf) #[] lb)(eg:∀a7 a,(callFunc gf a7).run G a=.ok (.enter gf a7) a){m:α->Array Value}(ab:∀x,(m x).size=ps.size){R:World->World->Prop}{S:List α->World->Prop}{Sp Bx:List α->Prop}(ac:ZN G cs gf lb m R S Sp i a)(ad:∀b,Sp b->Bx b->False)(U:∀ {A B C:World},R A B->R B C->R A C)(X:∀(W:World) (l:Nat) (o o':Obj),W.heap[l]?=some o->o.isCells=false->R W (W.putObj l o'))(ak:∀(xs:List α) (W:World) (l:Nat) (o o':Obj),S xs W->W.heap[l]?=some o->o.isCells=false->S xs (W.putObj l o'))(I:List α->World->Prop)(a6:OwnFrom a.heap.size I)(al:∀b W v,I b W->I b (W.setCell (cs,0) v))(h0:I [] a)(a1:α->Act)(u:∀(l:Nat) (x:α) (W:World) (K:Act->World->Prop),K (a1 x) W->assign.wpIn (Fence.wide.inRound l) 0 G (Exit.then K (λ_ _ _=>False)) {tmps:=(ps.zip (m x)).foldl (λt (p,v)=>t.setIfInBounds p v) L.tmps,defers:=[]} W)(E:∀(l:Nat) (b:List α) (x:α) (W:World),I b W->b.length<i->body.wpIn (Fence.wide.inRound l) 0 G (LB I Bx R (b++[x]) W) (a1 x) W)(F:∀(D:Nat) (xs:List α) (W:World),a.heap.size<=D->S xs W->I xs W->W.heap[D]?=some (.deferred (some []))->j .normal {L with defers:= {target:= .collected D,args:= #[]} ::L.defers} W):
  (Code.rangeFunc g ps assign body).wpIn Fence.wide n G j L a:=by
 refine wpIn_rangeFunc ?_;intro fn ao;obtain⟨f,P⟩:∃f:LoopState->Loop,f=λst=> {state:=st,pending:=none,fn,tmps:=L.tmps,params:=ps,assign,body,defers:=a.heap.size} :=⟨_,rfl⟩
 obtain⟨V,w⟩:∃V,(a.alloc (.deferred (some []))).alloc (.loop (f .ready))=V:=⟨_,rfl⟩
 have a5:V.heap.size=a.heap.size+2:=by rw[<-w];simp
 have ap:V.heap[a.heap.size+1]?=some (.loop (f .ready)):=by have h:=World.alloc_heap_new (a.alloc (.deferred (some []))) (.loop (f .ready));rw[World.size_alloc]at h;rw[<-w];exact h
 have aq:V.heap[a.heap.size]?=some (.deferred (some [])):=by rw[<-w];exact(Below.heap_alloc _ _ _ (by simp)).trans (World.alloc_heap_new a _)
 have ar:Below a.heap.size a V:=by rw[<-w];exact((gD _ a).alloc (ae _) _).alloc (by simp) _
 have av:I [] V:=by rw[<-w];exact a6.alloc _ (a6.alloc _ h0)
 refine⟨a.heap.size+1,[{target:= .collected a.heap.size,args:= #[]}],V,{target:= .fn (.func gf) lb,args:= #[.func (.yield (a.heap.size+1)) #[] #[]]},V,gf,#[.func (.yield (a.heap.size+1)) #[] #[]]++lb,V,?_,?_,?_,?_,λ_=>by omega,?_⟩
 .rw[<-w,P];exact run_enterLoop_outer _ _ _ _ _
 .simp only[resolve,hg];simp[go_sem]
 .intro f' _;trivial
 .simp[invoke,go_sem,eg]
 have aw:OwnFrom V.heap.size (λb W=>I b W/\W.heap[a.heap.size+1]?=some (.loop (f .ready))/\W.heap[a.heap.size]?=some (.deferred (some []))):=by
  intro s A B ay hs Y hr;have z:∀k,k<a.heap.size+2->∀o,A.heap[k]?=some o->B.heap[k]?=some o:=λk hk o M=>(Y.block k (mq.1 M).1 (λe=>by have:=(hr k e.symm).1;omega)).trans M
  exact⟨a6 s A B ay hs.1 Y (λr e=>⟨by have:=(hr r e).1;omega,(hr r e).2⟩),z _ (by omega) _ hs.2.1,z _ (by omega) _ hs.2.2⟩
 refine(ac (a.heap.size+1) (n - 1) _ Bx V (by omega) (by omega) ar aw (λb W1 v h=>⟨al b W1 v h.1,(KeepsOthers.setCell W1 (cs,0) v).same _ _ h.2.1 rfl,(KeepsOthers.setCell W1 (cs,0) v).same _ _ h.2.2 rfl⟩) ?_ ⟨av,ap,aq⟩).mono ?_
 .rintro b x W ⟨hi,y,hd⟩ aD;have aE:=(mq.1 y).1;have hy:=run_yield (P:=G) (args:=m x) y (by rw[P];exact ab x);rw[P]at hy;refine⟨fn,_,assign,body,hy,roundIn_of_wpIn ao (u _ x W _ ⟨_,run_beginRound y (by rw[P]),?_⟩)⟩;have Z:(W.putObj (a.heap.size+1) (.loop {f .ready with state:= .busy})).heap[a.heap.size+1]?=some (.loop {f .ready with state:= .busy}):=World.putObj_heap_same aE;have aL:(W.putObj (a.heap.size+1) (.loop {f .ready with state:= .busy})).heap[a.heap.size]?=some (.deferred (some [])):=(World.putObj_heap_other (by omega)).trans hd;have aM:R W (W.putObj (a.heap.size+1) (.loop {f .ready with state:= .busy})):=X _ _ _ _ y rfl;refine wpIn_mono (E _ b x _ (a6.putObj _ hi (by omega) y rfl) aD) ?_;rintro e a3 W3 O;cases e with
  |normal=>
   obtain⟨aN,aQ,c⟩:=O;have q:=c.same _ _ Z rfl;have aR:=c.same _ _ aL rfl;have d:=run_endRound (P:=G) none q;have Q:({{f .ready with state:= .busy}with state:=if(none:Option Code).isNone then LoopState.ready else .done,pending:=none} :Loop)=f .ready:=by rw[P];rfl
   rw[Q]at d;have aa:(W3.putObj (a.heap.size+1) (.loop (f .ready))).heap[a.heap.size+1]?=some (.loop (f .ready)):=World.putObj_heap_same (mq.1 q).1;refine⟨_,_,d,.inl ⟨rfl,⟨a6.putObj _ aN (by omega) q rfl,aa,(World.putObj_heap_other (by omega)).trans aR⟩,U (U aM aQ) (X _ _ _ _ q rfl),?_,λN o T M=> ?_⟩⟩
   .have h1:=c.size;simp at h1 ⊢;exact h1
   by_cases H:N=a.heap.size+1
   .subst H;rw[y]at T;cases T;exact aa
   exact(World.putObj_heap_other H).trans (c.same N o ((World.putObj_heap_other H).trans T) M)
  |ret=>
   obtain⟨aW,c⟩:=O;have q:=c.same _ _ Z rfl;refine⟨_,_,run_endRound (P:=G) (some .ret) q,.inr ⟨rfl,aW,?_,λN o T M hc=> ?_⟩⟩
   .have h1:=c.size;simp at h1 ⊢;exact h1
   exact(World.putObj_heap_other T).trans (c.same N o ((World.putObj_heap_other T).trans M) hc)
  |exit id=>exact O.elim
  |goto t=>exact O.elim
  |panic ch=>exact O.elim
  |outgrown=>exact O.elim
 rintro e W2 ⟨⟨v,rfl⟩,(⟨xs,hS,hi,y,hd⟩|⟨b,a0,a2⟩)⟩
 rotate_left
 .exact(ad b a0 a2).elim
 have d:=run_endLoop (P:=G) y (by rw[P];simp);have a4:(f .ready).pending=none:=by rw[P]
 rw[a4]at d;refine⟨none,_,d,?_⟩;exact F _ xs _ (ae _) (ak _ _ _ _ _ hS y rfl) (a6.putObj _ hi (by omega) y rfl) ((World.putObj_heap_other (by omega)).trans hd)
end
section
open Go.ChangeShapes Go.WideShapes Go.WideMaps
theorem Ty:ArrKey Tryz.prog 23 3 3:=⟨Tryz.underlying23,by kernel_rfl,by kernel_rfl,by kernel_rfl⟩
section
variable {H:Type} {enc:TypeId×Value->H} {P:Program} {k e:TypeId} {q:IntKind} {W:World} {base:Nat} {sp:Nat->Bool} {held:Bool}
theorem YP (A:ArrKey P k e 3){r:Reach}{b:Nat}{v:Value}(h:Value.okWide P W r b k v):∃f c1 c2,v=.agg #[f,c1,c2]:=by
 simp only[Value.okWide,A.hu]at h;obtain⟨c,d,a,_⟩:=h;rw[A.size]at a;obtain⟨l⟩:=c
 match l,a with
 |[f,c1,c2],_=>exact⟨f,c1,c2,d⟩
theorem Lb (A:ArrKey P k e 3)(he:P.underlying e=some (.int q)){r:Reach}{s:Nat}{v:Value}{d:DataW H}{l:List MemPlace}(g:Value.okWide P W r s k v)(t:DataW.Trod enc P W base sp held k v d l):
  ∃a b c:Int,v=.agg #[.int q a,.int q b,.int q c]/\d=.agg [.lit (.int q a),.lit (.int q b),.lit (.int q c)]/\l=[]/\(Lit.int q a).wf=true/\(Lit.int q b).wf=true/\(Lit.int q c).wf=true:=by
 obtain⟨C,D,c2,rfl⟩:=YP A g;obtain⟨h,f⟩:=t;cases h with
 |zero=>simp[DataW.trod]at f
 |succ n=>rw[DataW.trod_step]at f;unfold DataW.trodStep at f;simp only[A.hu,Value.cells]at f;rw[if_pos (by rw[A.size];rfl)]at f;simp only[Option.map_eq_some_iff]at f;obtain⟨E,i,j⟩:=f;rw[show List.range 3=[0,1,2]from rfl,List.mapM_cons,List.mapM_cons,List.mapM_cons,List.mapM_nil]at i;simp only[bind,Option.bind_eq_some_iff,pure,n',A.one]at i;obtain⟨F,u,_,⟨G,w,_,⟨I,x,_,rfl,rfl⟩,rfl⟩,rfl⟩:=i;obtain⟨a,m,rfl,y⟩:=DataW.trod_int he u;obtain⟨b,o,rfl,z⟩:=DataW.trod_int he w;obtain⟨c,p,rfl,B⟩:=DataW.trod_int he x;simp at m o p;subst m;subst o;subst p;simp only[rE]at j;exact⟨a,b,c,rfl,by rw[<-j.1];rfl,by rw[<-j.2];rfl,y,z,B⟩
end
end
def Bk (w:World)(g:Nat)(t:TypeId)(a:Array Value):Prop:=w.heap[g]?=some (.cells a t (0,0))
theorem Bk.cell {w:World}(h:Bk w g t V)(i:Nat):w.cell? (g,i)=V[i]? :=by unfold Bk at h;simp[World.cell?,h]
theorem Bk.frozen (h:Bk a g t V)(i:Nat):a.frozen? (g,i)=false:=by unfold Bk at h;simp[World.frozen?,h]
theorem Bk.lt (h:Bk a g t V):g<a.heap.size:=(mq.1 h).1
theorem Bk.alloc (h:Bk a g t V)(o:Obj):Bk (a.alloc o) g t V:=(Below.heap_alloc a o g h.lt).trans h
theorem Bk.set {w:World}(h:Bk w g t V)(i:Nat)(u:Value):Bk (w.setCell (g,i) u) g t (V.setIfInBounds i u):=by unfold Bk at h ⊢;simp[World.setCell,Array.getElem?_modify,h]
theorem Bk.I (h:Bk a g t V){p:Addr}(b:g≠p.block)(u:Value):Bk (a.setCell p u) g t V:=(Below.heap_setCell a p u g b).trans h
theorem Bk.drew (h:Bk a g t V):Bk a.drew g t V:=h
theorem Rd.new (d:Array Value)(t:TypeId)(n c:Nat)(h:d.size=n*c):Rd (p.alloc (.cells d t)) (p.heap.size+1) (p,0) n c d.toList:=
 ⟨by simpa using h,λ_=>⟨_,_,rfl,by omega,λj u a=>by
  have b:(p.alloc (.cells d t)).heap[p.heap.size]?=some (.cells d t):=heap_alloc_new p _;have:=World.news_of_block b j u a
  rwa [jt]at this⟩⟩
theorem Rd.newAt (h:Nat)(a:p.heap.size=h)(d:Array Value)(t:TypeId)(n c:Nat)(b:d.size=n*c):Rd (p.alloc (.cells d t)) (h+1) (h,0) n c d.toList:=by subst a;exact Rd.new p d t n c b
def i7 (w:World)(t:TypeId)(A:Option Addr)(n c:Nat)(d:List Value):Prop:=d.length=n*c/\(0<n->∃b o a,A=some ⟨b,o,none⟩/\Bk w b t a/\∀j u,d[j]?=some u->a[o+j]?=some u)
theorem i7.rd {n:Nat}{k:List Value}(h:i7 a t v n i k):Rd a a.heap.size v n i k:=
 ⟨h.1,λc=>by
  obtain⟨b,o,d,e,A,f⟩:=h.2 c;exact⟨b,o,e,A.lt,λj u g=>by rw[A.cell];exact f j u g⟩⟩
theorem i7.below {w w':World}{n:Nat}(h:i7 w t v n i m)(d:Below w w w'):i7 w' t v n i m:=
 ⟨h.1,λf=>by
  obtain⟨b,o,c,e,a,g⟩:=h.2 f;exact⟨b,o,c,e,(d.block b a.lt).trans a,g⟩⟩
theorem i7.grown {w':World}{n:Nat}{row:Option Nat}(h:i7 a t v n i m)(l:a.grownBy w' row)(x:∀g,row=some g->∃A f,Bk a g f A/\t≠f):i7 w' t v n i m:=
 ⟨h.1,λp=>by
  obtain⟨b,o,A,e,c,q⟩:=h.2 p;refine⟨b,o,A,e,(l.block b c.lt (λe=> ?_)).trans c,q⟩;obtain⟨k,f,r,w⟩:=x b e.symm;have j:a.heap[b]?=_:=c;have d:a.heap[b]?=_:=r;rw[j]at d;injection d with s
  injection s with _ u
  exact w u⟩
theorem iI {n:Nat}{k:List Value}(h:a.ownsRow i t g d n k):∀v,d.ownBlock=some v->∃j,Bk a v t j:=by
 intro v b;rcases h.2 with⟨rfl,_⟩|⟨f,c,j,rfl,_,w,_⟩
 .simp[Value.ownBlock]at b
 simp only[Value.ownBlock,n']at b;subst b;exact⟨j,w⟩
theorem Bk.grown {w':World}(h:Bk a g t V){p n:Nat}(r:a.grownBy w' d.ownBlock)(f:a.ownsRow i o p d n m)(b:t≠o):Bk w' g t V:=
 (r.block g h.lt (λv=>by
  obtain⟨j,k⟩:=iI f g v.symm;have c:a.heap[g]?=_:=h;have q:a.heap[g]?=_:=k;rw[c]at q;injection q with l
  injection l with _ w
  exact b w)).trans h
theorem Bk.new (t:TypeId)(a:Array Value):Bk (p.alloc (.cells a t)) p.heap.size t a:=heap_alloc_new p _
theorem i7.other {w':World}{n:Nat}{p:List Value}{row:Option Nat}(h:i7 a t v n i p)(m:a.grownBy w' row)(j:∀r,row=some r->∃o:Obj,a.heap[r]?=some o/\o.isCells=false):i7 w' t v n i p:=
 ⟨h.1,λk=>by
  obtain⟨b,o,c,e,A,d⟩:=h.2 k;refine⟨b,o,c,e,(m.block b A.lt (λe=> ?_)).trans A,d⟩;obtain⟨l,g,d⟩:=j b e.symm;have f:a.heap[b]?=_:=A;rw[f]at g;cases g;cases d⟩
theorem ir {l:Nat}{n:Nat}(h:a.ownsRow i t l d n m)(j:g<=i):a.ownsRow g t l d n m:=⟨h.1,h.2.imp id (λ⟨w,b,c,f,k,v⟩=>⟨w,b,c,f,by omega,v⟩)⟩
theorem jX {n c:Nat}{p:List Value}(h:a.ownsRow i t g (v n c) n p):i7 a t v n g p:=by
 refine⟨h.1,λl=> ?_⟩;rcases h.2 with⟨m,_⟩|⟨w,o,d,m,_,k,_,_,_,f⟩
 .simp only[oa]at m;omega
 simp only[oa,true_and]at m;obtain⟨rfl,rfl⟩:=m;refine⟨w,0,d,rfl,k,λj u b=> ?_⟩;rw[<-f,pY]at b;split at b
 .rw[mU,<-Array.getElem?_toList];exact b
 cases b
theorem yP {n k c:Nat}(h:a.ownsRow i t k (v n c) n m):n<=c:=by
 rcases h.2 with⟨w,f⟩|⟨g,b,d,w,_,_,j,_⟩
 .omega
 simp only[oa]at w;omega
def nQ (T:Nat->Prop)(W a:World):Prop:=∀b,T b->∀o,W.heap[b]?=some o->o.isCells=true->a.heap[b]?=some o
theorem nQ.refl (T:Nat->Prop)(W:World):nQ T W W:=λ_ _ _ h _=>h
theorem nQ.trans (h:nQ T a r)(k:nQ T r C):nQ T a C:=λb A o d c=>k b A o (h b A o d c) c
theorem nQ.put (l:Nat)(o e:Obj)(h:p.heap[l]?=some o)(f:o.isCells=false):nQ T p (p.putObj l e):=λb _ q a c=>by
 have d:l≠b:=by
  rintro rfl;rw[h]at a;injection a with a
  subst a;simp[f]at c
 exact(World.putObj_heap_other (Ne.symm d)).trans a
theorem nQ.below {T:Nat->Prop}{W a:World}(h:Below W W a):nQ T W a:=λb _ o c _=>(h.block b (mq.1 c).1).trans c
theorem nQ.cell (h:nQ T a r){p:Addr}(g:T p.block)(v:a.cell? p=some d):r.cell? p=some d:=by
 unfold World.cell? at v ⊢;split at v
 .rename_i c e f b;rw[h _ g _ b rfl];exact v
 cases v
theorem nQ.rd (h:nQ T r a)(f:∀b,b<i->T b){n:Nat}(c:Rd r i v n g m):Rd a i v n g m:=
 ⟨c.1,λl=>by
  obtain⟨b,o,e,d,A⟩:=c.2 l;exact⟨b,o,e,d,λj u k=>h.cell (p:=⟨b,o+j,none⟩) (f b d) (A j u k)⟩⟩
def RowsIn (t:TypeId)(w:World)(b:List Value)(a:List (List P3)):Prop:=b.length=a.length/\∀(i:Nat) (r:List P3),a[i]?=some r->∃A k c,b[i]?=some (Value.slice A k c)/\i7 w t A k 3 (dP r)/\k<=c
theorem RowsIn.nil (t:TypeId)(w:World):RowsIn t w [] []:=⟨rfl,λi r h=>by simp at h⟩
theorem RowsIn.kept {w':World}(h:RowsIn t a m u)(d:∀A k r,i7 a t A k 3 (dP r)->i7 w' t A k 3 (dP r)):RowsIn t w' m u:=⟨h.1,λi r hi=>by obtain⟨A,k,c,e,f,g⟩:=h.2 i r hi;exact⟨A,k,c,e,d _ _ _ f,g⟩⟩
theorem RowsIn.snoc (h:RowsIn t a m u){k c:Nat}(g:i7 a t v k 3 (dP s))(d:k<=c):RowsIn t a (m++[v k c]) (u++[s]):=by
 refine⟨by simp[h.1],λi j hi=> ?_⟩;by_cases b:i<u.length
 .rw[un b]at hi;obtain⟨l,w,n,o,p⟩:=h.2 i j hi;exact⟨l,w,n,by rw[un (by rw[h.1];exact b)];exact o,p⟩
 have e:i=u.length:=by have:=(ll.1 hi).1;simp at this;omega
 subst e;simp at hi;subst hi;exact⟨v,k,c,by rw[<-h.1];simp,g,d⟩
theorem RowsIn.below {w w':World}{b:List Value}{a:List (List P3)}(h:RowsIn t w b a)(c:Below w w w'):RowsIn t w' b a:=h.kept λ_ _ _ d=>d.below c
structure Ins where
 op:Int
 a:Int
 deriving DecidableEq
structure Pt where
 x:Int
 y:Int
 on:Bool
 deriving DecidableEq
structure Part where
 z:Int
 x:Int
 y:Int
 deriving DecidableEq
structure ml where
 gd:Int
 ia:Int
 x:Int
 y:Int
 deriving DecidableEq
structure Delta where
 region:Int
 ii:Int
 x:Int
 y:Int
 deriving DecidableEq
structure hU where
 gn:B
 gL:Int
 i6:Bool
 gk:List Pt
 gO:List Int
 gi:List Part
 gh:List ml
 gx:List Delta
 gR:List Ins
 deriving DecidableEq
variable{l:List hU}
structure nD where
 jN:Int
 z:Int
 deriving DecidableEq
structure Call where
 iB:Int
 lookup:Int
 deriving DecidableEq
structure k' where
 gE:List (List Int)
 ij:List (List Int)
 ahead:List (List Int)
 out:List Int
 gw:List Call
 x:Int
 deriving DecidableEq
structure gH where
 gd:Int
 nj:Bool
 gC:List k'
 deriving DecidableEq
structure mS where
 gn:B
 ge:List Int
 deriving DecidableEq
structure mT where
 gn:B
 km:Int
 kA:Int
 kv:Int
 deriving DecidableEq
structure mC where
 start:Int
 jx:Int
 jz:Int
 deriving DecidableEq
structure Region where
 kB:List mC
 deriving DecidableEq
structure iu where
 gt:Int
 ga:List hU
 f6:List nD
 ge:List gH
 a':List mS
 gM:List mT
 d':List Region
 fY:List (List Ins)
 gP:List Int
 deriving DecidableEq
def opNames:List B:=[[112,117,115,104],[112,111,112],[100,117,112],[115,119,97,112],[97,100,100],[115,117,98],[109,117,108],[100,105,118],[110,101,103],[97,98,115],[109,105,110],[109,97,120],[102,108,111,111,114],[99,101,105,108],[114,111,117,110,100],[108,116],[108,101],[101,113],[110,111,116],[97,110,100],[111,114],[112,114,111,106],[102,114,101,101],[109,111,100,101],[99,118,116],[115,101,116,99,118,116],[108,111,97,100],[115,97,118,101],[103,101,116],[111,114,103],[109,111,118,101],[115,101,116],[97,108,105,103,110],[105,110,116,101,114],[106,117,109,112],[106,117,109,112,122],[99,97,108,108,102],[108,111,111,112],[115,105,122,101]]
def anchorNames:List B:=[[98,97,115,101],[109,97,114,107],[101,110,116,114,121],[101,120,105,116]]
def aH:List B:=[[115,105,110,103,108,101],[109,117,108,116,105,112,108,101],[108,105,103,97,116,117,114,101],[99,104,97,105,110],[114,101,118,101,114,115,101],[112,97,105,114],[99,117,114,115,105,118,101],[109,97,114,107,115]]
abbrev nN:B:=[117,110,105,116]
abbrev wZ:B:=[97,120,105,115]
abbrev kY:B:=[114,101,103,105,111,110]
abbrev oO:B:=[99,118,116]
abbrev sH:B:=[102,117,110,99]
abbrev fB:B:=[103,108,121,112,104]
abbrev jo:B:=[109,97,114,107]
abbrev ik:B:=[99,111,110,116,111,117,114]
abbrev sJ:B:=[112,97,114,116]
abbrev lY:B:=[97,110,99,104,111,114]
abbrev pO:B:=[100,101,108,116,97]
abbrev qG:B:=[104,105,110,116]
abbrev xe:B:=[99,104,97,114]
abbrev iW:B:=[108,111,111,107,117,112]
abbrev fO:B:=[105,103,110,111,114,101]
abbrev ku:B:=[114,117,108,101]
abbrev kH:B:=[102,101,97,116,117,114,101]
abbrev CB:B:=[99,108,97,115,115]
def pick (l:List B)(n:Int):B:=if n<1 then [63]else(l[(n - 1).toNat]?).getD [63]
def nK (n:Int):B:=pick opNames n
def ag (n:Int):B:=Lib.itoa n
def gy (a:List B):B:=a.flatMap (λw=>32::w)
def aJ (first:B)(a:List B):B:=first++gy a++[10]
def dO (i:Ins):B:=nK i.op++if i.a=0 then []else 58::ag i.a
def dK (a:List hU)(n:Int):B:=if n<0 then 63::ag n else match a[n.toNat]? with|some g=>g.gn|none=>63::ag n
def lz (a:List hU)(l:List Int):List B:=match l with|[n]=>[dK a n]|_=>[91]::l.map (dK a)++[[93]]
def di (a:List hU)(l:List (List Int)):List B:=l.flatMap (lz a)
def j' (b:List hU)(a:Int)(r:k'):List B:=
 if a=1\/a=2\/a=3\/a=5 then r.out.map (dK b)
 else if a=4 then r.gw.map (λc=>ag c.iB++58::ag c.lookup)
 else if a=6 then [ag r.x]else []
def DR (b:List hU)(a:Int)(r:k'):List B:=di b r.gE++[47]::di b r.ij++[47]::di b r.ahead++[62]::j' b a r
def qF (b:List hU)(a:Int)(r:k'):B:=aJ ku (DR b a r)
def eu (a:List hU)(l:gH):B:=aJ iW (pick aH l.gd::if l.nj then [fO]else [])++l.gC.flatMap (qF a l.gd)
def jZ (p:Pt):B:=ag p.x++44::ag p.y++if p.on then []else [42]
def fV (a:List Pt):Nat->List Int->List (List Pt)
 |_,[]=>[]
 |fr,e::b=>if e<(fr:Int)\/(a.length:Int)<=e then []else((a.take (e.toNat+1)).drop fr)::fV a (e.toNat+1) b
def eF (b:List hU)(g:hU):B:=
 aJ fB (g.gn::ag g.gL::if g.i6 then [jo]else [])++
 (fV g.gk 0 g.gO).flatMap (λc=>aJ ik (c.map jZ))++
 g.gi.flatMap (λp=>aJ sJ [dK b p.z,ag p.x,ag p.y])++
 g.gh.flatMap (λa=>aJ lY [pick anchorNames a.gd,ag a.ia,ag a.x,ag a.y])++
 g.gx.flatMap (λd=>aJ pO [ag d.region,ag d.ii,ag d.x,ag d.y])++
 if g.gR.isEmpty then []else aJ qG (g.gR.map dO)
def fD (a:mT):B:=aJ wZ [a.gn,ag a.km,ag a.kA,ag a.kv]
def lK (t:mC):List B:=[ag t.start,ag t.jx,ag t.jz]
def dF (r:Region):B:=aJ kY (r.kB.flatMap lK)
def iL (p:List Ins):B:=aJ sH (p.map dO)
def lF (a:List hU)(c:nD):B:=aJ xe [ag c.jN,dK a c.z]
def jw (x:mS):B:=aJ kH (x.gn::x.ge.map ag)
def mD (f:iu):B:=
 aJ nN [ag f.gt]++
 f.gM.flatMap fD++
 f.d'.flatMap dF++
 (if f.gP.isEmpty then []else aJ oO (f.gP.map ag))++
 f.fY.flatMap iL++
 f.ga.flatMap (eF f.ga)++
 f.f6.flatMap (lF f.ga)++
 f.ge.flatMap (eu f.ga)++
 f.a'.flatMap jw
def iF (c:UInt8):Bool:=decide (48<=c.toNat) && decide (c.toNat<=57)
def NT (c:UInt8):Bool:=(decide (65<=c.toNat) && decide (c.toNat<=90))||(decide (97<=c.toNat) && decide (c.toNat<=122))||c==95||c==46
theorem AK (c d:UInt8):(c==d)=decide (c.toNat=d.toNat):=by rw[Bool.eq_iff_iff];simp[UInt8.toNat_inj]
theorem lm (s:List UInt8)(a b:Nat):(ByteArray.mk s.toArray).extract a b=⟨((s.take b).drop a).toArray⟩:=by apply ByteArray.ext;rw[ByteArray.data_extract];apply Array.ext';simp[List.extract_eq_take_drop,List.drop_take]
def nb (c:UInt8):Bool:= !blank c
theorem mj (c:B)(i:Nat)(b:UInt8)(h:c[i]?=some b):c.take (i+1)=c.take i++[b]:=by obtain⟨a,d⟩:=ll.1 h;rw[re a,d]
theorem drop_cons (c:B)(i:Nat)(b:UInt8)(h:c[i]?=some b):c.drop i=b::c.drop (i+1):=by obtain⟨a,d⟩:=ll.1 h;rw[List.drop_eq_getElem_cons a,d]
theorem Dw (c:B)(i:Nat)(b:UInt8)(h:c[i]?=some b)(a:blank b=true):(run (c.take (i+1))).cur=[]:=by rw[mj c i b h,wQ,step,if_pos a]
theorem OC {p:UInt8->Bool}(l:B)(k:Nat)(d:k<=l.length)(h:∀j c,j<k->l[j]?=some c->p c=true)(he:∀c,l[k]?=some c->p c=false):l.takeWhile p=l.take k:=by
 induction l generalizing k with
 |nil=>simp
 |cons a r e=>
  cases k with
  |zero=>have:=he a rfl;simp[this]
  |succ k=>have f:=h 0 a (by omega) rfl;rw[List.takeWhile_cons,if_pos f,List.take_succ_cons,e k (by simpa using d) (λj c g b=>h (j+1) c (by omega) (by simpa using b)) (λc b=>he c (by simpa using b))]
theorem OX (s:B)(k:Nat)(b:k<=s.length)(h:∀j c,j<k->s[j]?=some c->c≠35)(he:∀c,s[k]?=some c->c=35):code s=s.take k:=OC s k b (λj c d a=>by simpa using h j c d a) (λc a=>by simpa using he c a)
def Jt (Y:Act->World->Prop):Exit->Act->World->Prop
 | .normal,a,w=>Y a w
 |_,_,_=>False
theorem WS {o:Oper}{K f Y:Act->World->Prop}(h:∀L a,K L a->f L a)(b:o.wp G L a K (Jt Y)):o.wp G L a f j:=by
 unfold Oper.wp at*
 generalize (execOp L.eval o).run G a=r at*
 cases r with
 |ok n c=>
  cases n<;>simp only[Oper.upon]at b ⊢ <;>
   first
    |exact h _ _ b
    |exact Calls.mono b (λe d he=>by
      cases e
      .exact h _ _ he
      .exact(he:False).elim
      obtain⟨_,_,he⟩:=he;exact(he:False).elim)
    |exact Rows.mono b (λ_ _ he=>h _ _ he)
 |halt x c=>cases x<;>simp only[Oper.upon]at b ⊢ <;>exact(b:False).elim
def MB (b:Array Oper):Nat->Nat->Array Bool->Bool
 |0,_,_=>true
 |n+1,k,a=>(Region.ready .any b a==[k]) && MB b n (k+1) (a.setIfInBounds k true)
def UA:Nat->Nat->Array Bool->Array Bool
 |0,_,a=>a
 |n+1,k,a=>UA n (k+1) (a.setIfInBounds k true)
theorem Fr {P:Program}{ops:Array Oper}{Q:Exit->Act->World->Prop}{Y:Act->World->Prop}{m:Nat}:∀(l:List Oper) (k:Nat) (b:Array Bool) (a:Act) (w:World),(∀j o,l[j]?=some o->ops[k+j]?=some o)->MB ops l.length k b=true->
  (∀a w,Y a w->wpAny P .any ops Q m (UA l.length k b) a w)->wpList P ops (Jt Y) l a w->wpAny P .any ops Q (l.length+m) b a w:=by
 intro l;induction l with
 |nil=>intro k b a w _ _ d h;simpa [UA]using d a w h
 |cons o l q=>
  intro k b a w g n d h;simp only[aV,MB,np,beq_iff_eq]at n;obtain⟨p,r⟩:=n;have s:ops[k]?=some o:=by simpa using g 0 o rfl
  have c:=λa w=>q (k+1) (b.setIfInBounds k true) a w (λj t u=>by have:=g (j+1) t (by simpa using u);rwa [show k+(j+1)=k+1+j by omega]at this) r d
  rw[aV,show l.length+1+m=l.length+m+1 by omega];refine⟨λe=>(by rw[p]at e;cases e),λi hi=> ?_⟩;rw[p,js]at hi;subst hi;unfold wpOp;rw[s];simp only[wpList]at h;show if _ then _ else _
  split
  .rename_i f;rw[if_pos f]at h;rcases h with h|⟨-,_,_,h⟩
   .exact .inl (WS (λa w=>c a w) h)
   exact(h:False).elim
  rename_i f;rw[if_neg f]at h;exact c _ _ h
abbrev Bs:=Nat->Prop
variable{c:Bs}
abbrev Rel (α:Type):=World->Bs->List Value->α->Prop
def Same (S:Bs)(w w':World):Prop:=∀b,S b->w'.heap[b]?=w.heap[b]?
theorem Same.refl (S:Bs)(w:World):Same S w w:=λ_ _=>rfl
theorem Same.trans {S:Bs}{a b c:World}(h:Same S a b)(k:Same S b c):Same S a c:=λx d=>(k x d).trans (h x d)
theorem Same.sub {S S':Bs}{a b:World}(h:Same S' a b)(c:∀x,S x->S' x):Same S a b:=λx d=>h x (c x d)
theorem Same.cell {S:Bs}{w w':World}(h:Same S w w')(c:S i)(o:w.cell? (i,g)=some d):w'.cell? (i,g)=some d:=(World.cell?_of_block (a:=(i,g)) (h i c)).trans o
structure Rel.Ok {α:Type}(R:Rel α):Prop where
 keep:∀ {w w':World} {S:Bs} {cs:List Value} {x:α},R w S cs x->Same S w w'->R w' S cs x
 mono:∀ {w:World} {S S':Bs} {cs:List Value} {x:α},R w S cs x->(∀b,S b->S' b)->R w S' cs x
def Fl {α:Type}(R:Rel α)(size:Nat)(w:World)(S:Bs)(cells:List Value)(xs:List α):Prop:=cells.length=xs.length*size/\∀k x,xs[k]?=some x->∃a,R w S a x/\a.length=size/\∀j u,a[j]?=some u->cells[k*size+j]?=some u
def Sl {α:Type}(R:Rel α)(size:Nat)(w:World)(S:Bs)(A:Option Addr)(xs:List α):Prop:=∃cells,Fl R size w S cells xs/\(0<xs.length->∃b o,A=some ⟨b,o,none⟩/\S b/\∀j u,cells[j]?=some u->w.cell? ⟨b,o+j,none⟩=some u)
def te {α:Type}(R:Rel α)(size:Nat):Rel (List α):=λw S a xs=>∃A c,a=[.slice A xs.length c]/\Sl R size w S A xs
section
variable {α:Type} {R:Rel α} {size:Nat} {w w':World} {S S':Bs} {cells:List Value} {xs:List α} {A:Option Addr}
theorem Fl.keep (a:R.Ok)(h:Fl R size w S cells xs)(b:Same S w w'):Fl R size w' S cells xs:=⟨h.1,λk x c=>by obtain⟨d,e,f,g⟩:=h.2 k x c;exact⟨d,a.keep e b,f,g⟩⟩
theorem Fl.mono (a:R.Ok)(h:Fl R size w S cells xs)(c:∀b,S b->S' b):Fl R size w S' cells xs:=⟨h.1,λk x d=>by obtain⟨e,f,g,i⟩:=h.2 k x d;exact⟨e,a.mono f c,g,i⟩⟩
theorem Sl.keep (d:R.Ok)(h:Sl R size w S A xs)(a:Same S w w'):Sl R size w' S A xs:=by obtain⟨cells,f,g⟩:=h;refine⟨cells,f.keep d a,λi=> ?_⟩;obtain⟨b,o,e,c,k⟩:=g i;exact⟨b,o,e,c,λj u l=>a.cell c (k j u l)⟩
theorem Sl.mono (c:R.Ok)(h:Sl R size w S A xs)(a:∀b,S b->S' b):Sl R size w S' A xs:=by obtain⟨cells,d,f⟩:=h;refine⟨cells,d.mono c a,λg=> ?_⟩;obtain⟨b,o,e,i,j⟩:=f g;exact⟨b,o,e,a b i,j⟩
theorem te.ok (b:R.Ok):(te R size).Ok:=⟨λ⟨A,c,e,h⟩ a=>⟨A,c,e,h.keep b a⟩,λ⟨A,c,e,h⟩ a=>⟨A,c,e,h.mono b a⟩⟩
theorem Sl.get (h:Sl R size w S A xs){k:Nat}(c:k<xs.length):
  ∃b o x q,A=some ⟨b,o,none⟩/\S b/\Hid (xs[k]?=some x)/\R w S q x/\q.length=size/\∀j u,q[j]?=some u->w.cell? ⟨b,o+k*size+j,none⟩=some u:=by
 obtain⟨cells,d,f⟩:=h;obtain⟨b,o,e,g,i⟩:=f (by omega);have a:xs[k]?=some xs[k]:=jO c;obtain⟨q,l,m,n⟩:=d.2 k _ a;exact⟨b,o,_,q,e,g,a,l,m,λj u p=>by rw[xA];exact i _ _ (n j u p)⟩
theorem Fl.nil:Fl R size w S [] []:=⟨by simp,λk x h=>by simp at h⟩
theorem Sl.nil:Sl R size w S A []:=⟨[],Fl.nil,λh=>absurd h (by simp)⟩
theorem Fl.append {a:List Value}{m:List α}(h:Fl R size w S cells xs)(k:Fl R size w S a m):Fl R size w S (cells++a) (xs++m):=by
 refine⟨by simp[h.1,k.1,rF],λi x b=> ?_⟩;by_cases hi:i<xs.length
 .rw[un hi]at b;obtain⟨d,e,f,g⟩:=h.2 i x b;refine⟨d,e,f,λj u l=> ?_⟩;have c:=g j u l;rw[un (ll.1 c).1];exact c
 rw[ri (by omega)]at b;obtain⟨d,e,f,g⟩:=k.2 _ x b;refine⟨d,e,f,λj u l=> ?_⟩;have c:=g j u l;have he:xs.length*size+(i - xs.length)*size=i*size:=by rw[<-rF];congr 1;omega
 rw[ri (by rw[h.1];omega),h.1,show i*size+j - xs.length*size=(i - xs.length)*size+j by omega];exact c
theorem Fl.one {cs:List Value}{x:α}(h:R w S cs x)(b:cs.length=size):Fl R size w S cs [x]:=by
 refine⟨by simp[b],λk y a=> ?_⟩;cases k with
 |zero=>simp at a;subst a;exact⟨cs,h,b,λj u c=>by simpa using c⟩
 |succ k=>simp at a
theorem Fl.snoc {b:List Value}{x:α}(h:Fl R size w S cells xs)(k:R w S b x)(a:b.length=size):Fl R size w S (cells++b) (xs++[x]):=h.append (Fl.one k a)
theorem Sl.U {x n c:Nat}{e:TypeId}(h:w.ownsRow x e size (A n c) n cells)(i:Fl R size w S cells xs)(l:∀b a,Bk w b e a->S b)(d:0<size):Sl R size w S A xs:=by
 refine⟨cells,i,λm=> ?_⟩;rcases h.2 with⟨f,o⟩|⟨g,p,a,f,t,q,v,-⟩
 .have k:=h.1;have r:=i.1;subst o;simp only[Nat.zero_mul,List.length_eq_zero_iff]at k;subst k;have:=Nat.mul_pos m d;rw[<-r]at this;simp at this
 simp only[oa,true_and]at f;obtain⟨rfl,rfl⟩:=f;refine⟨g,0,rfl,l g a q,λj u s=> ?_⟩;have:=h.cells (g:=g) rfl j u s
 rwa [jt]at this
end
def qo (d:B):Nat:=d.foldl (λn c=>10*n+(c.toNat - 48)) 0
def wM (d:B):Bool:=d.all iF && decide (1<=d.length/\d.length<=9)
def iJ (s:B):B:=match s with|45::r=>r|s=>s
def signed (s:B):Bool:=match s with|45::_=>true|_=>false
def aI (s:B):Int:=if wM (iJ s)then(if signed s then -(qo (iJ s):Int)else(qo (iJ s):Int))else 0
def yI (s:B):Bool:=wM (iJ s)
theorem Bi (d:B)(c:UInt8):qo (d++[c])=10*qo d+(c.toNat - 48):=by simp[qo]
theorem Ue (k:Nat):10 ^ (k+1)=10*10 ^ k:=by rw[Nat.pow_succ,Nat.mul_comm]
theorem Xw (d:B)(h:∀c∈d,iF c=true):qo d<10 ^ d.length:=by
 suffices h:∀k,k<=d.length->qo (d.take k)<10 ^ k by simpa using h d.length (ae _)
 intro k;induction k with
 |zero=>intro _;simp[qo]
 |succ k a=>
  intro f;have e:d.take (k+1)=d.take k++[d[k]]:=by rw[re (by omega)]
  have g:=a (by omega);have b:=h d[k] (List.getElem_mem _);simp[iF]at b;rw[e,Bi,Ue];omega
theorem WT (d:B)(c:UInt8)(h:c∈d)(a:iF c=false):wM d=false:=by rw[wM,Bool.and_eq_false_iff];left;rw[List.all_eq_false];exact⟨c,h,by simp[a]⟩
theorem Kx (d:B)(h:d.length<1\/9<d.length):wM d=false:=by rw[wM,Bool.and_eq_false_iff];right;simp;omega
theorem TL (d:B)(h:∀c∈d,iF c=true)(a:1<=d.length)(b:d.length<=9):wM d=true:=by rw[wM,np,pZ];exact⟨h,by simp;omega⟩
theorem zU (s:B):(∃r,s=45::r/\iJ s=r/\signed s=true)\/(iJ s=s/\signed s=false/\∀r,s≠45::r):=by
 unfold iJ signed;split
 .exact .inl ⟨_,rfl,rfl,rfl⟩
 rename_i h;exact .inr ⟨rfl,rfl,h⟩
theorem oH (c:UInt8):iF c=true ↔ 48<=c.toNat/\c.toNat<=57:=by simp[iF]
def nameAt (i:Nat)(c:UInt8):Bool:=NT c||(decide (i≠0) && (iF c||c==45))
def hZ (s:B):Bool:=decide (0<s.length/\s.length<=16) && (List.range s.length).all (λi=>nameAt i (s[i]?.getD 0))
theorem byte_at (s:B)(k:Nat)(c:UInt8)(h:s[k]?=some c)(a:k<(ByteArray.mk s.toArray).size):(ByteArray.mk s.toArray)[k]'a=c:=by obtain⟨d,b⟩:=ll.1 h;rw[<-b];rfl
theorem JL (s:B)(k:Nat)(c:UInt8)(h:s[k]?=some c)(a:nameAt k c=false):hZ s=false:=by rw[hZ,Bool.and_eq_false_iff];right;obtain⟨b,d⟩:=ll.1 h;rw[List.all_eq_false];exact⟨k,by simpa using b,by simp[h,a]⟩
theorem FZ (s:B)(h:∀j c,j<s.length->s[j]?=some c->nameAt j c=true):hZ s=decide (0<s.length/\s.length<=16):=by
 rw[hZ];have:((List.range s.length).all λi=>nameAt i (s[i]?.getD 0))=true:=by
  rw[pZ];intro i hi;have a:i<s.length:=by simpa using hi
  rw[jO a];exact h i _ a (jO a)
 rw[this,Bool.and_true]
theorem U9 {k:Nat}{c:UInt8}(h:128<=c.toNat):nameAt k c=false:=by simp[nameAt,NT,iF,AK];omega
theorem CM (s:B)(h:s.length<1\/16<s.length):hZ s=false:=by rw[hZ,Bool.and_eq_false_iff];left;simp;omega
theorem rf (k:Nat)(c:UInt8):nameAt k c=true ↔ (65<=c.toNat/\c.toNat<=90)\/(97<=c.toNat/\c.toNat<=122)\/c.toNat=95\/c.toNat=46\/(k≠0/\((48<=c.toNat/\c.toNat<=57)\/c.toNat=45)):=by simp[nameAt,NT,iF,AK];omega
theorem MY (s:B)(a i:Nat)(h:s[i]?=some 10)(d:a<=i)(b:∀c∈(s.take i).drop a,c≠10):iU (s.drop a)=(s.take i).drop a::iU (s.drop (i+1)):=by
 have hi:=(ll.1 h).1;have e:s.drop a=(s.take i).drop a++10::s.drop (i+1):=by
  rw[<-drop_cons s i 10 h]
  conv=>lhs;rw[<-rA i s]
  rw[List.drop_append_of_le_length (by rw[ot];omega)]
 rw[e,Xa _ _ b]
theorem BX (done:List B)(p:B):bY 1 (done++[p])=bY 1 done++if one p=[]then []else [num (done.length+1) (one p)]:=by rw[Ql];simp[bY];rw[Nat.add_comm]
theorem EF (n:Nat)(done:List B):(bY n done).length<=done.length:=by
 induction done generalizing n with
 |nil=>simp[bY]
 |cons p b a=>have:=a (n+1);rw[bY,la];split<;>simp<;>omega
theorem Ih (n:Nat)(l:List (Nat×B)):(num n l).length=l.length:=by simp[num]
def yM (t d:TypeId)(w w':World)(a:List (List P3))(v:Value):Prop:=∃A c b,v=.slice A a.length c/\i7 w' d A a.length 1 b/\RowsIn t w' b a/\Below w w w'
theorem Gs (l:B):(run l).all.length<=l.length:=by
 suffices h:∀k,k<=l.length->(run (l.take k)).all.length<=k by simpa using h l.length (ae _)
 intro k;induction k with
 |zero=>intro _;simp[run,p',St.all,St.ns]
 |succ k a=>
  intro b;have e:l.take (k+1)=l.take k++[l[k]]:=by rw[re (by omega)]
  have:=a (by omega);rw[e,wQ];unfold step;split
  .simp[St.all,St.ns]at this ⊢;omega
  simp only[St.all,St.ns,List.append_eq_nil_iff,List.cons_ne_nil,and_false,if_false,la,aV,ln]at this ⊢;omega
theorem WY (l:B):(one l).length<=l.length:=by unfold one code;exact nt (Gs _) (List.takeWhile_sublist _).length_le
theorem RowsIn.grown {w':World}{n:Nat}{p:List Value}(h:RowsIn t a m u)(f:a.ownsRow i o g d n p)(v:a.grownBy w' d.ownBlock)(b:t≠o):RowsIn t w' m u:=
 h.kept λ_ _ _ j=>j.grown v λw e=>by
  obtain⟨c,k⟩:=iI f w e;exact⟨c,o,k,b⟩
theorem i7.alloc {n:Nat}(h:i7 a t v n i m)(o:Obj):i7 (a.alloc o) t v n i m:=h.below ((gD _ _).alloc (ae _) _)
theorem RowsIn.alloc (h:RowsIn t a m u)(o:Obj):RowsIn t (a.alloc o) m u:=h.kept λ_ _ _ c=>c.alloc o
theorem Vn (s:ByteArray)(c:Int)(w:World):(callFunc 175 #[.string s,.int .u8 c]).run Tryz.prog w=.ok (.value (.int .i64 (Lib.indexByte s.data.toList c.toNat.toUInt8))) w:=by rw[run_callFunc_extern Tryz.func175 (by kernel_rfl) (by kernel_rfl) (by kernel_rfl) (e:=Extern.BytealgIndexByte.indexByte) (by kernel_rfl),Lib.run_indexByteString];rfl
theorem Qa (s:B):Calls Tryz.prog 130 #[.string s,.string ⟨#[10]⟩] p λe a=>e=.returned (.int .i64 (Lib.indexByte s 10))/\p=a:=by
 have c:=Vn;go_enter Tryz.func130,Tryz.ntmps130
 go_wp2
 .have h:([10]==s)=true:=by assumption
  have b:[10]=s:=by simpa using h
  go_ret
  refine⟨?_,rfl⟩;rw[<-b];rfl
 go_ret
 exact⟨rfl,rfl⟩
def L8 (a:List hU)(i:Nat):List Int:=match a[i]? with|some g=>g.gi.map (·.z)|none=>[]
def Em (a:List hU)(i p:Nat):Prop:=(p:Int)∈L8 a i
def AT (a:List hU):Nat->Nat->Nat->Prop
 |0,i,q=>Em a i q
 |n+1,i,q=>∃p,Em a i p/\AT a n p q
def Way (a:List hU)(i q:Nat):Prop:=∃n,AT a n i q
theorem Way.one {p:Nat}(h:Em l i p):Way l i p:=⟨0,h⟩
theorem Way.more {p:Nat}(h:Em l i p)(k:Way l p g):Way l i g:=by obtain⟨n,k⟩:=k;exact⟨n+1,p,h,k⟩
def Shut (a:List hU)(t:Nat)(M:Nat->Prop):Prop:=∀j,M j->∀p,Em a j p->p≠t/\M p
theorem Shut.way {c:List hU}(h:Shut c i T){q:Nat}(a:T g)(w:Way c g q):q≠i/\T q:=by
 obtain⟨n,w⟩:=w;induction n generalizing g with
 |zero=>exact h _ a _ w
 |succ n b=>obtain⟨p,k,w⟩:=w;exact b (h _ a _ k).2 w
def wm (a:List hU):Prop:=∀i,i<a.length->¬Way a i i
theorem Pf {c:List hU}{M:Nat->Prop}(b:Shut c i M)(a:∀p,Em c i p->p≠i/\M p):¬Way c i i:=λw=>by
 obtain⟨n,w⟩:=w;cases n with
 |zero=>exact(a _ w).1 rfl
 |succ n=>obtain⟨p,h,k⟩:=w;exact(b.way (a _ h).2 ⟨n,k⟩).1 rfl
theorem filter_lt {l:List Nat}{P Q:Nat->Bool}(h:∀x,P x=true->Q x=true){x:Nat}(hx:x∈l)(f:Q x=true)(g:P x=false):(l.filter P).length<(l.filter Q).length:=by
 induction l with
 |nil=>simp at hx
 |cons a r d=>
  have e:∀m:List Nat,(m.filter P).length<=(m.filter Q).length:=by
   intro m;induction m with
   |nil=>simp
   |cons b m d=>
    rw[List.filter_cons,List.filter_cons];by_cases c:P b=true
    .rw[if_pos c,if_pos (h b c),aV,aV];omega
    rw[if_neg c];split
    .rw[aV];omega
    exact d
  rw[List.filter_cons,List.filter_cons];rw[lx]at hx;rcases hx with rfl|hx
  .rw[if_neg (by simp[g]),if_pos f,aV];have:=e r;omega
  have:=d hx;by_cases c:P a=true
  .rw[if_pos c,if_pos (h a c),aV,aV];omega
  rw[if_neg c];split
  .rw[aV];omega
  exact this
theorem wm.yb {gs:List hU}(c:wm gs):∃r:Nat->Nat,∀i p,p<gs.length->Em gs i p->r p<r i:=by
 refine⟨λi=>((List.range gs.length).filter (λj=> @decide (Way gs i j) (Classical.propDecidable _))).length,λi p a h=> ?_⟩;exact filter_lt (x:=p) (λx b=>by
  simp only[sk]at b ⊢;exact .more h b) (List.mem_range.2 a) (by simpa using Way.one h) (by simpa using c p a)
def yz (m:List Bool):Nat:=(m.filter (λb=> !b)).length
theorem KM {p:Nat}(h:x[p]?=some false):yz (x.set p true)+1=yz x:=by
 induction x generalizing p with
 |nil=>simp at h
 |cons a r b=>
  cases p with
  |zero=>simp only[oj,n']at h;subst h;simp[yz]
  |succ p=>
   rw[oX]at h;have:=b h;unfold yz at this ⊢;rw[List.set_cons_succ,List.filter_cons,List.filter_cons];split
   .rw[aV,aV];omega
   exact this
def qA (m:List Bool)(j:Nat):Prop:=m[j]?=some true
structure Found (gs:List hU)(i t:Nat)(m m':List Bool)(b:Bool):Prop where
 len:m'.length=m.length
 stay:∀j,qA m j->qA m' j
 own:b=false->∀p,Em gs i p->p≠t/\qA m' p
 new:b=false->∀j,qA m' j->qA m j\/∀p,Em gs j p->p≠t/\qA m' p
structure qZ (gs:List hU)(ks:List Int)(t:Nat)(m m':List Bool):Prop where
 len:m'.length=m.length
 stay:∀j,qA m j->qA m' j
 own:∀p:Nat,(p:Int)∈ks->p≠t/\qA m' p
 new:∀j,qA m' j->qA m j\/∀p,Em gs j p->p≠t/\qA m' p
theorem qZ.start (a:List hU)(t:Nat)(m:List Bool):qZ a [] t m m:=⟨rfl,λ_ h=>h,λ_ h=>by simp at h,λ_ h=> .inl h⟩
theorem qZ.xT (h:qZ l K i x y){p:Nat}(c:p≠i)(d:qA y p):qZ l (K++[(p:Int)]) i x y:=
 ⟨h.len,h.stay,λq hq=>by
  rw[jp,js]at hq;rcases hq with hq|hq
  .exact h.own q hq
  have:q=p:=by omega
  subst this;exact⟨c,d⟩,h.new⟩
theorem qZ.search {b:List Bool}(h:qZ l K i x y){p:Nat}(t:p≠i)(g:p<y.length)(f:Found l p i (y.set p true) b false):qZ l (K++[(p:Int)]) i x b:=by
 have c:∀j,qA y j->qA b j:=λj hj=>f.stay j (by
  unfold qA at hj ⊢;rw[xF];split
  .rename_i e;subst e;simp[g]
  exact hj)
 have k:qA b p:=f.stay p (by unfold qA;rw[List.getElem?_set_self g]);refine⟨by rw[f.len,vN,h.len],λj hj=>c j (h.stay j hj),λq hq=> ?_,λj hj=> ?_⟩
 .rw[jp,js]at hq;rcases hq with hq|hq
  .exact⟨(h.own q hq).1,c q (h.own q hq).2⟩
  have:q=p:=by omega
  subst this;exact⟨t,k⟩
 rcases f.new rfl j hj with hj|hj
 .unfold qA at hj;rw[xF]at hj;split at hj
  .rename_i e;subst e;exact .inr (f.own rfl)
  rcases h.new j hj with hj|hj
  .exact .inl hj
  exact .inr λq hq=>⟨(hj q hq).1,c q (hj q hq).2⟩
 exact .inr hj
theorem Found.none {c:List hU}(f:Found c i i x y false)(h:∀j,¬qA x j):¬Way c i i:=Pf (M:=qA y) (λj b=>(f.new rfl j b).resolve_left (h j)) (f.own rfl)
def ov (p:Nat->Bool):Nat->Nat
 |0=>0
 |n+1=>ov p n+(p n).toNat
theorem Ro {p q:Nat->Bool}:∀n,(∀j,j<n->p j=q j)->ov p n=ov q n
 |0,_=>rfl
 |n+1,h=>by simp only[ov];rw[Ro n (λj a=>h j (by omega)),h n (by omega)]
theorem V7 {p q:Nat->Bool}{i:Nat}(a:p i=true)(b:q i=false)(he:∀j,j≠i->p j=q j):∀n,i<n->ov p n=ov q n+1
 |0,h=>absurd h (by omega)
 |n+1,h=>by
  simp only[ov];by_cases e:i=n
  .subst e;rw[Ro i (λj c=>he j (by omega)),a,b];rfl
  rw[V7 a b he n (by omega),he n (λx=>e x.symm)];omega
theorem Jw {p:Nat->Bool}:∀n,ov p n=0->∀j,j<n->p j=false
 |0,_,j,h=>absurd h (by omega)
 |n+1,e,j,h=>by
  simp only[ov]at e;by_cases a:j=n
  .subst a;cases b:p j
   .rfl
   rw[b]at e;simp at e
  exact Jw n (by omega) j (by omega)
theorem V6 {p:Nat->Bool}:∀n,ov p n≠0->∃j,j<n/\p j=true/\∀k,k<j->p k=false
 |0,h=>absurd rfl h
 |n+1,h=>by
  by_cases e:ov p n=0
  .have a:=Jw n e;refine⟨n,by omega,?_,a⟩;cases b:p n
   .simp[ov,e,b]at h
   rfl
  obtain⟨j,f,c,d⟩:=V6 n e;exact⟨j,by omega,c,d⟩
theorem V5 {p:Nat->Bool}:∀n,(∀j,j<n->p j=true)->ov p n=n
 |0,_=>rfl
 |n+1,h=>by simp only[ov];rw[V5 n (λj a=>h j (by omega)),h n (by omega)];rfl
def Nk (ops:Array Oper)(n:Nat)(sl:Nat->Nat):Bool:=
 (List.range ops.size).all λi=>match ops[i]? with
  |none=>false
  |some o=>o.after.all (λe=> !Region.binds .any e||decide (e.on<i)) &&
   (if i<n then o.guard.isNone && o.dst==some (sl i) && (List.range (n+1)).any (λj=>decide (i<j) && ((ops[j]?).map λq=>q.after.any λe=>Region.binds .any e && e.on==i).getD false)
   else if n<i then o.after.any (λe=>Region.binds .any e && decide (n<=e.on))else true)
def qf (t:Array Value)(sl:Nat->Nat):Nat->List Value->Array Value
 |_,[]=>t
 |i,v::a=>qf (t.setIfInBounds (sl i) v) sl (i+1) a
theorem JR {sl:Nat->Nat}{k:Nat}(b:List Value):∀(t:Array Value) (i:Nat),(∀a,i<=a->a<i+b.length->sl a≠k)->(qf t sl i b)[k]?=t[k]? :=by
 induction b with
 |nil=>intros;rfl
 |cons v b c=>intro t i h;simp only[aV]at h;rw[qf,c _ _ (λa d e=>h a (by omega) (by omega)),Array.getElem?_setIfInBounds_ne (h i (by omega) (by omega))]
theorem Ii {sl:Nat->Nat}(c:List Value):∀(t:Array Value) (i:Nat),(∀a b,i<=a->a<b->b<i+c.length->sl a≠sl b)->(∀a,i<=a->a<i+c.length->sl a<t.size)->∀(j:Nat) (v:Value),c[j]?=some v->(qf t sl i c)[sl (i+j)]?=some v:=by
 induction c with
 |nil=>intro t i _ _ j v h;simp at h
 |cons u c m=>
  intro t i d f j v g;simp only[aV]at d f;cases j with
  |zero=>simp at g;subst g;rw[Nat.add_zero,qf,JR _ _ _ (λa l k e=>d i a (ae _) (by omega) (by omega) e.symm),Array.getElem?_setIfInBounds_self_of_lt (f i (ae _) (by omega))]
  |succ j=>rw[qf,show i+(j+1)=i+1+j by omega];exact m _ _ (λa b l k o=>d a b (by omega) k (by omega)) (λa l k=>by simpa using f a (by omega) (by omega)) j v (by simpa using g)
abbrev nl (t:Array Value)(a:Nat)(b:List Value):Array Value:=qf t (λi=>a+i) 0 b
structure vm (F:Nat->Value->World->Prop)(ops:Array Oper)(n:Nat)(sl:Nat->Nat)(a0:Act)(w0:World)(listed:Array Bool)(a:Act)(w:World):Prop where
 low:Below w0 w0 w
 df:a.defers=a0.defers
 sz:a.tmps.size=a0.tmps.size
 out:∀k,(∀i,i<n->sl i≠k)->a.tmps[k]?=a0.tmps[k]?
 ins:∀i,i<n->∃v,a.tmps[sl i]?=some v/\(listed.getD i true=true->F i v w)
 ls:listed.size=ops.size
 rest:∀i,n<=i->i<ops.size->listed.getD i true=false
 down:∀(i:Nat) (o:Oper),i<n->ops[i]?=some o->listed.getD i true=true->∀e∈o.after,Region.binds .any e=true->listed.getD e.on true=true
theorem Wp {l:Array Bool}(h:i<l.size):l.getD i true=l.getD i false:=by simp[h]
theorem xM {l:Array Bool}(h:i<l.size):(l.setIfInBounds i true).getD g true=if g=i then true else l.getD g true:=by
 by_cases e:g=i
 .subst e;simp[h]
 rw[if_neg e,getD_set_ne true (λx=>e x.symm)]
section
variable {P:Program} {ops:Array Oper} {Q:Exit->Act->World->Prop} {F:Nat->Value->World->Prop} {n:Nat} {sl:Nat->Nat} {a0:Act} {w0:World}
theorem BL (g:Nk ops n sl=true){i:Nat}{o:Oper}(k:ops[i]?=some o):(∀e∈o.after,Region.binds .any e=true->e.on<i)/\(i<n->o.guard=none/\o.dst=some (sl i)/\∃j q,j<=n/\i<j/\ops[j]?=some q/\∃e∈q.after,Region.binds .any e=true/\e.on=i)/\(n<i->∃e∈o.after,Region.binds .any e=true/\n<=e.on):=by
 have hi:=(mq.1 k).1;simp only[Nk,pZ,List.mem_range]at g;have h:=g i hi;simp only[k,np]at h;obtain⟨l,b⟩:=h;refine⟨λe he a=> ?_,λc=> ?_,λc=> ?_⟩
 .have:=Array.all_eq_true_iff_forall_mem.1 l e he;simpa [a]using this
 .rw[if_pos c]at b;simp only[np,Option.isNone_iff_eq_none,beq_iff_eq,List.any_eq_true,List.mem_range,sk]at b;obtain⟨⟨m,p⟩,j,s,r,d⟩:=b;refine⟨m,p,?_⟩;cases f:ops[j]? with
  |none=>simp[f]at d
  |some q=>simp only[f,Option.map_some,Option.getD_some]at d;obtain⟨e,he,a⟩:=Array.any_eq_true'.1 d;simp only[np,beq_iff_eq]at a;exact⟨j,q,by omega,r,f,e,he,a⟩
 rw[if_neg (by omega),if_pos c]at b;obtain⟨e,he,a⟩:=Array.any_eq_true'.1 b;simp only[np,sk]at a;exact⟨e,he,a⟩
theorem vm.all {b:Array Bool}{a:Act}{w:World}(m:Nk ops n sl=true)(o:vm F ops n sl a0 w0 b a w)(x:n<ops.size){q:Oper}(p:ops[n]?=some q)(r:∀e∈q.after,Region.binds .any e=true->b.getD e.on true=true):∀j,j<n->b.getD j true=true:=by
 have f:∀d j,j<n->n - j<=d->b.getD j true=true:=by
  intro d;induction d with
  |zero=>intro j k s;omega
  |succ d t=>
   intro j k s;have g:j<ops.size:=by omega
   obtain⟨-,-,h,u,y,z,i,e,he,l,c⟩:=(BL m (Array.getElem?_eq_getElem g)).2.1 k;by_cases v:h=n
   .subst v;rw[p]at i;cases i;exact c ▸ r e he l
   exact c ▸ o.down h u (by omega) i (t h (by omega) (by omega)) e he l
 exact λj g=>f n j g (by omega)
theorem Ms {m:Nat}(C:Nk ops n sl=true)(hn:n<ops.size)(l:∀i j,i<j->j<n->sl i≠sl j)(hz:∀i,i<n->sl i<a0.tmps.size)
  (hF:∀i v w w',Below w.heap.size w w'->F i v w->F i v w')
  (z:∀i o,i<n->ops[i]?=some o->∀a w,(∀k,(∀i,i<n->sl i≠k)->a.tmps[k]?=a0.tmps[k]?)->Below w0 w0 w->(∀e∈o.after,Region.binds .any e=true->∃v,a.tmps[sl e.on]?=some v/\F e.on v w)->o.wp P a w (λV w'=>∃v,V=a.put o.dst v/\Below w.heap.size w w'/\F i v w') (Jt λ_ _=>True))
  (D:∀f a w,vm F ops n sl a0 w0 f a w->(∀j,j<n->f.getD j true=true)->wpAny P .any ops Q m f a w):
  ∀(d:Nat) (f:Array Bool) (a:Act) (w:World),ov (λi=> !f.getD i true) n=d->vm F ops n sl a0 w0 f a w->wpAny P .any ops Q (d+m) f a w:=by
 have aa:∀i j,i<n->j<n->i≠j->sl i≠sl j:=λi j a b c=>by
  rcases Nat.lt_or_gt_of_ne c with d|d
  .exact l i j d b
  exact λe=>l j i d a e.symm
 intro d;induction d with
 |zero=>intro f a w W g;rw[mU];exact D f a w g (λj l=>by simpa using Jw n W j l)
 |succ d ih=>
  intro f a w W g;rw[show d+1+m=d+m+1 by omega];obtain⟨K,L,E,M⟩:=V6 n (p:=λi=> !f.getD i true) (by omega);refine⟨λe=> ?_,λi hi=> ?_⟩
  .have l:K<ops.size:=by omega
   have:K∈Region.ready .any ops f:=mem_ready.2 ⟨by simpa using E,_,Array.getElem?_eq_getElem l,λe he r=>by
    have N:=(BL C (Array.getElem?_eq_getElem l)).1 e he r;rw[<-Wp (by rw[g.ls];omega)];simpa using M e.on N⟩
   rw[e]at this;cases this
  obtain⟨N,o,y,h2⟩:=mem_ready.1 hi;have s:=(mq.1 y).1;have A:=(BL C y).1;have I:∀e∈o.after,Region.binds .any e=true->f.getD e.on true=true:=λe he r=>by
   rw[Wp (by rw[g.ls];have:=A e he r;omega)];exact h2 e he r
  have t:i<n:=by
   rcases Nat.lt_trichotomy i n with h|h|h
   .exact h
   .subst h;have:=g.all C hn y I K L;simp[this]at E
   obtain⟨e,he,r,O⟩:=(BL C y).2.2 h;have X:=I e he r;rw[g.rest e.on O (by have:=A e he r;omega)]at X;cases X
  obtain⟨hg,G,-⟩:=(BL C y).2.1 t;unfold wpOp;rw[y];show if _ then _ else _
  rw[if_pos (by simp[Region.wanted,hg])];refine .inl (WS ?_ (z i o t y a w g.out g.low (λe he r=> ?_)))
  .rintro V w' ⟨v,rfl,r,R⟩;refine ih _ _ _ ?_ ?_
   .have:=V7 (p:=λj=> !f.getD j true) (q:=λj=> !(f.setIfInBounds i true).getD j true) (i:=i) (by simpa using N) (by rw[xM (by rw[g.ls];exact s)];simp) (λj l=>by rw[xM (by rw[g.ls];exact s)];simp[l]) n t;omega
   rw[G];refine⟨g.low.trans (r.mono g.low.size),g.df,by simp[Act.put,g.sz],λk Y=> ?_,λj l=> ?_,by simp[g.ls],λj l S=> ?_,λj q l T B=> ?_⟩
   .show(a.tmps.setIfInBounds (sl i) v)[k]?=_;rw[Array.getElem?_setIfInBounds_ne (Y i t)];exact g.out k Y
   .show ∃u,(a.tmps.setIfInBounds (sl i) v)[sl j]?=some u/\_;by_cases e:j=i
    .subst e;exact⟨v,Array.getElem?_setIfInBounds_self_of_lt (by rw[g.sz];exact hz j l),λ_=>R⟩
    obtain⟨u,hu,U⟩:=g.ins j l;refine⟨u,by rw[Array.getElem?_setIfInBounds_ne (aa i j t l (λx=>e x.symm))];exact hu,λB=> ?_⟩;rw[xM (by rw[g.ls];exact s),if_neg e]at B;exact hF _ _ _ _ r (U B)
   .rw[xM (by rw[g.ls];exact s),if_neg (by omega)];exact g.rest j l S
   intro e he H;rw[xM (by rw[g.ls];exact s)]at B ⊢;split
   .rfl
   by_cases Z:j=i
   .subst Z;rw[y]at T;cases T;exact I e he H
   rw[if_neg Z]at B;exact g.down j q l T B e he H
  obtain⟨v,hv,R⟩:=g.ins e.on (by have:=A e he r;omega);exact⟨v,hv,R (I e he r)⟩
theorem GY {id:Nat}{l:List Oper}(n:Nat)(sl:Nat->Nat)(F:Nat->Value->World->Prop)(K:P.follows .mixedOrders=true)(L:Nk l.toArray n sl=true)(M:n<l.length)(t:MB l.toArray (l.drop n).length n (Array.replicate n true++Array.replicate (l.drop n).length false)=true)(I:(Region.ready .any l.toArray (UA (l.drop n).length n (Array.replicate n true++Array.replicate (l.drop n).length false))).isEmpty=true)(d:∀i j,i<j->j<n->sl i≠sl j)(E:∀i,i<n->sl i<a0.tmps.size)
  (N:∀i v w w',Below w.heap.size w w'->F i v w->F i v w')
  (s:∀i o,i<n->l[i]?=some o->∀a w,(∀k,(∀i,i<n->sl i≠k)->a.tmps[k]?=a0.tmps[k]?)->Below w0 w0 w->(∀j,(o.after.any λe=>Region.binds .any e && e.on==j)=true->∃v,a.tmps[sl j]?=some v/\F j v w)->o.wp P a w (λO w'=>∃v,O=a.put o.dst v/\Below w.heap.size w w'/\F i v w') (Jt λ_ _=>True))
  (x:∀c w,c.length=n->Below w0 w0 w->(∀i v,c[i]?=some v->F i v w)->wpList P l.toArray (Jt λa w=>Q .normal a w) (l.drop n) {tmps:=qf a0.tmps sl 0 c,defers:=a0.defers} w):(Code.region id l.toArray true).wp P Q a0 w0:=by
 refine wp_region_any K ?_;have G:(l.drop n).length=l.length - n:=by simp
 have C:∀j,j<l.length->(Array.replicate l.toArray.size false).getD j true=false:=λj d=>by simp[d]
 have y:=Ms (P:=P) (ops:=l.toArray) (Q:=Q) (F:=F) (n:=n) (sl:=sl) (a0:=a0) (w0:=w0) (m:=(l.drop n).length) L (by simpa using M) d E N (λi o hi D a w R S T=>s i o hi (by simpa using D) a w R S (λj d=>by
  obtain⟨e,he,H⟩:=Array.any_eq_true'.1 d;simp only[np,beq_iff_eq]at H;exact H.2 ▸ T e he H.1)) (λb a w f g=> ?_) n (Array.replicate l.toArray.size false) a0 w0.drew (V5 n (λj d=>by rw[C j (by omega)];rfl))
  ⟨(gD _ _).drew,rfl,rfl,λ_ _=>rfl,λi hi=>⟨_,Array.getElem?_eq_getElem (E i hi),λh=>by rw[C i (by omega)]at h;cases h⟩,by simp,λi _ hi=>C i (by simpa using hi),λi o hi _ h=>by rw[C i (by omega)]at h;cases h⟩
 .rw[G,show n+(l.length - n)=l.toArray.size by simp;omega]at y;exact y
 have U:b=Array.replicate n true++Array.replicate (l.drop n).length false:=by
  refine Array.ext (by rw[f.ls];simp;omega) (λj d V=> ?_);have W:b.getD j true=b[j]:=by simp[d]
  rw[<-W,Array.getElem_append];by_cases h:j<n
  .rw[g j h,dif_pos (by simpa using h)];simp
  rw[f.rest j (by omega) (by rw[<-f.ls];exact d),dif_neg (by simpa using h)];simp
 subst U
 let c:List Value:=(List.range n).map λi=>a.tmps.getD (sl i) undef
 have z:c.length=n:=by simp[c]
 have A:∀i,i<n->c[i]?=a.tmps[sl i]? :=λi hi=>by
  obtain⟨v,r,-⟩:=f.ins i hi;simp only[c,po,List.getElem?_range hi,Option.map_some];simp[r]
 have X:a={tmps:=qf a0.tmps sl 0 c,defers:=a0.defers} :=by
  have e:a.tmps=qf a0.tmps sl 0 c:=by
   refine Array.ext_getElem? (λk=> ?_);by_cases aa:∃i,i<n/\sl i=k
   .obtain⟨i,hi,rfl⟩:=aa;obtain⟨v,r,-⟩:=f.ins i hi;have:=Ii c a0.tmps 0 (λp q _ t I=>d p q t (by omega)) (λp _ t=>E p (by omega)) i v ((A i hi).trans r);rw[mU]at this;rw[r,this]
   have B:∀i,i<n->sl i≠k:=λi hi e=>aa ⟨i,hi,e⟩
   rw[JR c a0.tmps 0 (λp _ t=>B p (by omega))];exact f.out k B
  have e2:=f.df;cases a
  simp_all
 have:=x c w z f.low (λi v r=>by
  have hi:i<n:=by rw[<-z];exact(ll.1 r).1
  obtain⟨u,Z,hf⟩:=f.ins i hi;rw[A i hi,Z]at r;cases r;exact hf (g i hi))
 rw[<-X]at this;exact Fr (P:=P) (ops:=l.toArray) (Q:=Q) (Y:=λa w=>Q .normal a w) (m:=0) (l.drop n) n _ a w (λj o D=>by rw[List.getElem?_drop]at D;simpa using D) t (λa w hY=>⟨by simpa using I,hY⟩) this
theorem GX {id:Nat}{l:List Oper}(n b:Nat)(F:Nat->Value->World->Prop)(g:P.follows .mixedOrders=true)(m:Nk l.toArray n (λi=>b+i)=true)(p:n<l.length)(q:MB l.toArray (l.drop n).length n (Array.replicate n true++Array.replicate (l.drop n).length false)=true)(r:(Region.ready .any l.toArray (UA (l.drop n).length n (Array.replicate n true++Array.replicate (l.drop n).length false))).isEmpty=true)(x:b+n<=a0.tmps.size)
  (s:∀i v w w',Below w.heap.size w w'->F i v w->F i v w')
  (c:∀i o,i<n->l[i]?=some o->∀a w,(∀k,k<b\/b+n<=k->a.tmps[k]?=a0.tmps[k]?)->Below w0 w0 w->(∀j,(o.after.any λe=>Region.binds .any e && e.on==j)=true->∃v,a.tmps[b+j]?=some v/\F j v w)->o.wp P a w (λt w'=>∃v,t=a.put o.dst v/\Below w.heap.size w w'/\F i v w') (Jt λ_ _=>True))
  (d:∀f w,f.length=n->Below w0 w0 w->(∀i v,f[i]?=some v->F i v w)->wpList P l.toArray (Jt λa w=>Q .normal a w) (l.drop n) {tmps:=nl a0.tmps b f,defers:=a0.defers} w):(Code.region id l.toArray true).wp P Q a0 w0:=
 GY n (λi=>b+i) F g m p q r (λi j h _ e=>by omega) (λi h=>by show b+i<_;omega) s (λi o hi u a w h=>c i o hi u a w (λk y=>h k (λi hi e=>by omega))) d
end
def gN (z:Int):Prop:= -9223372036854775808<=z/\z<=9223372036854775807
theorem gN.small {z:Int}(a: -1000000000<=z)(b:z<=1000000000):gN z:=⟨by omega,by omega⟩
def gS:Rel Int:=λ_ _ a x=>a=[.int .i64 x]/\gN x
theorem gS.ok:gS.Ok:=⟨λh _=>h,λh _=>h⟩
theorem Sl.int {w:World}{S:Bs}{A:Option Addr}{l:List Int}(h:Sl gS 1 w S A l){k:Nat}(c:k<l.length):∃b o x,A=some ⟨b,o,none⟩/\S b/\Hid (l[k]?=some x)/\w.cell? ⟨b,o+k,none⟩=some (.int .i64 x)/\gN x:=by obtain⟨b,o,x,j,e,d,f,g,-,a⟩:=h.get c;obtain⟨rfl,i⟩:=g;simp only[Nat.mul_one]at a;exact⟨b,o,x,e,d,f,a 0 _ rfl,i⟩
def rt:Rel B:=λ_ _ a x=>a=[.string ⟨x.toArray⟩]
theorem rt.ok:rt.Ok:=⟨λh _=>h,λh _=>h⟩
theorem Sl.str {w:World}{S:Bs}{A:Option Addr}{j:List B}(h:Sl rt 1 w S A j){k:Nat}(c:k<j.length):∃b o x,A=some ⟨b,o,none⟩/\S b/\Hid (j[k]?=some x)/\w.cell? ⟨b,o+k,none⟩=some (.string ⟨x.toArray⟩):=by obtain⟨b,o,x,i,e,d,f,g,-,a⟩:=h.get c;obtain rfl:=g;simp only[Nat.mul_one]at a;exact⟨b,o,x,e,d,f,a 0 _ rfl⟩
def gT:Rel (List Int):=te gS 1
theorem gT.ok:gT.Ok:=te.ok gS.ok
theorem Sl.row {w:World}{S:Bs}{A:Option Addr}{m:List (List Int)}(h:Sl gT 1 w S A m){k:Nat}(c:k<m.length):∃b o x l c1,A=some ⟨b,o,none⟩/\S b/\Hid (m[k]?=some x)/\w.cell? ⟨b,o+k,none⟩=some (.slice l x.length c1)/\Sl gS 1 w S l x:=by obtain⟨b,o,x,j,e,d,f,g,-,a⟩:=h.get c;obtain⟨l,c1,rfl,i⟩:=g;simp only[Nat.mul_one]at a;exact⟨b,o,x,l,c1,e,d,f,a 0 _ rfl,i⟩
def ky:Rel Ins:=λ_ _ b x=>b=[.int .i64 x.op,.int .i64 x.a]/\gN x.op/\gN x.a
theorem ky.ok:ky.Ok:=⟨λh _=>h,λh _=>h⟩
theorem Sl.ins {n:List Ins}(h:Sl ky 2 a c v n){k:Nat}(d:k<n.length):∃b o x,v=some ⟨b,o,none⟩/\c b/\Hid (n[k]?=some x)/\a.cell? ⟨b,o+k*2,none⟩=some (.int .i64 x.op)/\a.cell? ⟨b,o+k*2+1,none⟩=some (.int .i64 x.a)/\gN x.op/\gN x.a:=by obtain⟨b,o,x,m,e,f,g,i,-,A⟩:=h.get d;obtain⟨rfl,j,l⟩:=i;exact⟨b,o,x,e,f,g,A 0 _ rfl,A 1 _ rfl,j,l⟩
def kx:Rel (List Ins):=te ky 2
theorem kx.ok:kx.Ok:=te.ok ky.ok
theorem Sl.code {w:World}{S:Bs}{A:Option Addr}{m:List (List Ins)}(h:Sl kx 1 w S A m){k:Nat}(c:k<m.length):∃b o x l c1,A=some ⟨b,o,none⟩/\S b/\Hid (m[k]?=some x)/\w.cell? ⟨b,o+k,none⟩=some (.slice l x.length c1)/\Sl ky 2 w S l x:=by obtain⟨b,o,x,j,e,d,f,g,-,a⟩:=h.get c;obtain⟨l,c1,rfl,i⟩:=g;simp only[Nat.mul_one]at a;exact⟨b,o,x,l,c1,e,d,f,a 0 _ rfl,i⟩
def lr:Rel Pt:=λ_ _ a x=>a=[.int .i64 x.x,.int .i64 x.y,.bool x.on]/\gN x.x/\gN x.y
theorem lr.ok:lr.Ok:=⟨λh _=>h,λh _=>h⟩
theorem Sl.pt {w:World}{S:Bs}{A:Option Addr}{m:List Pt}(h:Sl lr 3 w S A m){k:Nat}(c:k<m.length):∃b o x,A=some ⟨b,o,none⟩/\S b/\Hid (m[k]?=some x)/\w.cell? ⟨b,o+k*3,none⟩=some (.int .i64 x.x)/\w.cell? ⟨b,o+k*3+1,none⟩=some (.int .i64 x.y)/\w.cell? ⟨b,o+k*3+2,none⟩=some (.bool x.on)/\gN x.x/\gN x.y:=by obtain⟨b,o,x,l,e,d,f,g,-,a⟩:=h.get c;obtain⟨rfl,i,j⟩:=g;exact⟨b,o,x,e,d,f,a 0 _ rfl,a 1 _ rfl,a 2 _ rfl,i,j⟩
def lS:Rel Part:=λ_ _ a x=>a=[.int .i64 x.z,.int .i64 x.x,.int .i64 x.y]/\gN x.z/\gN x.x/\gN x.y
theorem lS.ok:lS.Ok:=⟨λh _=>h,λh _=>h⟩
theorem Sl.part {w:World}{S:Bs}{A:Option Addr}{n:List Part}(h:Sl lS 3 w S A n){k:Nat}(c:k<n.length):∃b o x,A=some ⟨b,o,none⟩/\S b/\Hid (n[k]?=some x)/\w.cell? ⟨b,o+k*3,none⟩=some (.int .i64 x.z)/\w.cell? ⟨b,o+k*3+1,none⟩=some (.int .i64 x.x)/\w.cell? ⟨b,o+k*3+2,none⟩=some (.int .i64 x.y)/\gN x.z/\gN x.x/\gN x.y:=by obtain⟨b,o,x,m,e,d,f,g,-,a⟩:=h.get c;obtain⟨rfl,i,j,l⟩:=g;exact⟨b,o,x,e,d,f,a 0 _ rfl,a 1 _ rfl,a 2 _ rfl,i,j,l⟩
def mc:Rel ml:=λ_ _ a x=>a=[.int .i64 x.gd,.int .i64 x.ia,.int .i64 x.x,.int .i64 x.y]/\gN x.gd/\gN x.ia/\gN x.x/\gN x.y
theorem mc.ok:mc.Ok:=⟨λh _=>h,λh _=>h⟩
theorem Sl.oi {w:World}{S:Bs}{A:Option Addr}{p:List ml}(h:Sl mc 4 w S A p){k:Nat}(c:k<p.length):∃b o x,A=some ⟨b,o,none⟩/\S b/\Hid (p[k]?=some x)/\w.cell? ⟨b,o+k*4,none⟩=some (.int .i64 x.gd)/\w.cell? ⟨b,o+k*4+1,none⟩=some (.int .i64 x.ia)/\w.cell? ⟨b,o+k*4+2,none⟩=some (.int .i64 x.x)/\w.cell? ⟨b,o+k*4+3,none⟩=some (.int .i64 x.y)/\gN x.gd/\gN x.ia/\gN x.x/\gN x.y:=by obtain⟨b,o,x,n,e,d,f,g,-,a⟩:=h.get c;obtain⟨rfl,i,j,l,m⟩:=g;exact⟨b,o,x,e,d,f,a 0 _ rfl,a 1 _ rfl,a 2 _ rfl,a 3 _ rfl,i,j,l,m⟩
def md:Rel Delta:=λ_ _ a x=>a=[.int .i64 x.region,.int .i64 x.ii,.int .i64 x.x,.int .i64 x.y]/\gN x.region/\gN x.ii/\gN x.x/\gN x.y
theorem md.ok:md.Ok:=⟨λh _=>h,λh _=>h⟩
theorem Sl.delta {w:World}{S:Bs}{A:Option Addr}{p:List Delta}(h:Sl md 4 w S A p){k:Nat}(c:k<p.length):∃b o x,A=some ⟨b,o,none⟩/\S b/\Hid (p[k]?=some x)/\w.cell? ⟨b,o+k*4,none⟩=some (.int .i64 x.region)/\w.cell? ⟨b,o+k*4+1,none⟩=some (.int .i64 x.ii)/\w.cell? ⟨b,o+k*4+2,none⟩=some (.int .i64 x.x)/\w.cell? ⟨b,o+k*4+3,none⟩=some (.int .i64 x.y)/\gN x.region/\gN x.ii/\gN x.x/\gN x.y:=by obtain⟨b,o,x,n,e,d,f,g,-,a⟩:=h.get c;obtain⟨rfl,i,j,l,m⟩:=g;exact⟨b,o,x,e,d,f,a 0 _ rfl,a 1 _ rfl,a 2 _ rfl,a 3 _ rfl,i,j,l,m⟩
def iA:Rel hU:=λw S g x=>∃a c3 b h c i d j e k f l,g=[.string ⟨x.gn.toArray⟩,.int .i64 x.gL,.bool x.i6,.slice a x.gk.length c3,.slice b x.gO.length h,.slice c x.gi.length i,.slice d x.gh.length j,.slice e x.gx.length k,.slice f x.gR.length l]/\gN x.gL/\Sl lr 3 w S a x.gk/\Sl gS 1 w S b x.gO/\Sl lS 3 w S c x.gi/\Sl mc 4 w S d x.gh/\Sl md 4 w S e x.gx/\Sl ky 2 w S f x.gR
theorem iA.ok:iA.Ok:=⟨λ⟨b,c3,c,d,f,g,h,i,j,k,l,m,e,n,o,p,q,r,s,t⟩ a=>⟨b,c3,c,d,f,g,h,i,j,k,l,m,e,n,o.keep lr.ok a,p.keep gS.ok a,q.keep lS.ok a,r.keep mc.ok a,s.keep md.ok a,t.keep ky.ok a⟩,λ⟨b,c3,c,d,f,g,h,i,j,k,l,m,e,n,o,p,q,r,s,t⟩ a=>⟨b,c3,c,d,f,g,h,i,j,k,l,m,e,n,o.mono lr.ok a,p.mono gS.ok a,q.mono lS.ok a,r.mono mc.ok a,s.mono md.ok a,t.mono ky.ok a⟩⟩
theorem Sl.z (h:Sl iA 9 a c v l){k:Nat}(S:k<l.length):∃b o x C c3 D c4 E c5 w g d i f j,v=some ⟨b,o,none⟩/\c b/\Hid (l[k]?=some x)/\a.cell? ⟨b,o+k*9,none⟩=some (.string ⟨x.gn.toArray⟩)/\a.cell? ⟨b,o+k*9+1,none⟩=some (.int .i64 x.gL)/\a.cell? ⟨b,o+k*9+2,none⟩=some (.bool x.i6)/\a.cell? ⟨b,o+k*9+3,none⟩=some (.slice C x.gk.length c3)/\a.cell? ⟨b,o+k*9+4,none⟩=some (.slice D x.gO.length c4)/\a.cell? ⟨b,o+k*9+5,none⟩=some (.slice E x.gi.length c5)/\a.cell? ⟨b,o+k*9+6,none⟩=some (.slice w x.gh.length g)/\a.cell? ⟨b,o+k*9+7,none⟩=some (.slice d x.gx.length i)/\a.cell? ⟨b,o+k*9+8,none⟩=some (.slice f x.gR.length j)/\gN x.gL/\Sl lr 3 a c C x.gk/\Sl gS 1 a c D x.gO/\Sl lS 3 a c E x.gi/\Sl mc 4 a c w x.gh/\Sl md 4 a c d x.gx/\Sl ky 2 a c f x.gR:=by obtain⟨b,o,x,z,e,m,n,p,-,A⟩:=h.get S;obtain⟨C,c3,D,c4,E,c5,w,g,d,i,f,j,rfl,q,r,s,t,u,F,y⟩:=p;exact⟨b,o,x,C,c3,D,c4,E,c5,w,g,d,i,f,j,e,m,n,A 0 _ rfl,A 1 _ rfl,A 2 _ rfl,A 3 _ rfl,A 4 _ rfl,A 5 _ rfl,A 6 _ rfl,A 7 _ rfl,A 8 _ rfl,q,r,s,t,u,F,y⟩
def kO:Rel nD:=λ_ _ a x=>a=[.int .i64 x.jN,.int .i64 x.z]/\gN x.jN/\gN x.z
theorem kO.ok:kO.Ok:=⟨λh _=>h,λh _=>h⟩
theorem Sl.Y {w:World}{S:Bs}{A:Option Addr}{m:List nD}(h:Sl kO 2 w S A m){k:Nat}(c:k<m.length):∃b o x,A=some ⟨b,o,none⟩/\S b/\Hid (m[k]?=some x)/\w.cell? ⟨b,o+k*2,none⟩=some (.int .i64 x.jN)/\w.cell? ⟨b,o+k*2+1,none⟩=some (.int .i64 x.z)/\gN x.jN/\gN x.z:=by obtain⟨b,o,x,l,e,d,f,g,-,a⟩:=h.get c;obtain⟨rfl,i,j⟩:=g;exact⟨b,o,x,e,d,f,a 0 _ rfl,a 1 _ rfl,i,j⟩
def mo:Rel Call:=λ_ _ a x=>a=[.int .i64 x.iB,.int .i64 x.lookup]/\gN x.iB/\gN x.lookup
theorem mo.ok:mo.Ok:=⟨λh _=>h,λh _=>h⟩
theorem Sl.call {w:World}{S:Bs}{A:Option Addr}{m:List Call}(h:Sl mo 2 w S A m){k:Nat}(c:k<m.length):∃b o x,A=some ⟨b,o,none⟩/\S b/\Hid (m[k]?=some x)/\w.cell? ⟨b,o+k*2,none⟩=some (.int .i64 x.iB)/\w.cell? ⟨b,o+k*2+1,none⟩=some (.int .i64 x.lookup)/\gN x.iB/\gN x.lookup:=by obtain⟨b,o,x,l,e,d,f,g,-,a⟩:=h.get c;obtain⟨rfl,i,j⟩:=g;exact⟨b,o,x,e,d,f,a 0 _ rfl,a 1 _ rfl,i,j⟩
def lj:Rel k':=λw S f x=>∃a g b h c c2 d c3 e i,f=[.slice a x.gE.length g,.slice b x.ij.length h,.slice c x.ahead.length c2,.slice d x.out.length c3,.slice e x.gw.length i,.int .i64 x.x]/\gN x.x/\Sl gT 1 w S a x.gE/\Sl gT 1 w S b x.ij/\Sl gT 1 w S c x.ahead/\Sl gS 1 w S d x.out/\Sl mo 2 w S e x.gw
theorem lj.ok:lj.Ok:=⟨λ⟨b,c,d,f,g,c2,h,c3,i,j,e,k,l,m,n,o,p⟩ a=>⟨b,c,d,f,g,c2,h,c3,i,j,e,k,l.keep gT.ok a,m.keep gT.ok a,n.keep gT.ok a,o.keep gS.ok a,p.keep mo.ok a⟩,λ⟨b,c,d,f,g,c2,h,c3,i,j,e,k,l,m,n,o,p⟩ a=>⟨b,c,d,f,g,c2,h,c3,i,j,e,k,l.mono gT.ok a,m.mono gT.ok a,n.mono gT.ok a,o.mono gS.ok a,p.mono mo.ok a⟩⟩
theorem Sl.X {w:World}{S:Bs}{A:Option Addr}{z:List k'}(h:Sl lj 6 w S A z){k:Nat}(c:k<z.length):∃b o x r y s c1 t c2 u c3 v c4,A=some ⟨b,o,none⟩/\S b/\Hid (z[k]?=some x)/\w.cell? ⟨b,o+k*6,none⟩=some (.slice r x.gE.length y)/\w.cell? ⟨b,o+k*6+1,none⟩=some (.slice s x.ij.length c1)/\w.cell? ⟨b,o+k*6+2,none⟩=some (.slice t x.ahead.length c2)/\w.cell? ⟨b,o+k*6+3,none⟩=some (.slice u x.out.length c3)/\w.cell? ⟨b,o+k*6+4,none⟩=some (.slice v x.gw.length c4)/\w.cell? ⟨b,o+k*6+5,none⟩=some (.int .i64 x.x)/\gN x.x/\Sl gT 1 w S r x.gE/\Sl gT 1 w S s x.ij/\Sl gT 1 w S t x.ahead/\Sl gS 1 w S u x.out/\Sl mo 2 w S v x.gw:=by obtain⟨b,o,x,q,e,d,f,g,-,a⟩:=h.get c;obtain⟨r,y,s,c1,t,c2,u,c3,v,c4,rfl,i,j,l,m,n,p⟩:=g;exact⟨b,o,x,r,y,s,c1,t,c2,u,c3,v,c4,e,d,f,a 0 _ rfl,a 1 _ rfl,a 2 _ rfl,a 3 _ rfl,a 4 _ rfl,a 5 _ rfl,i,j,l,m,n,p⟩
def jn:Rel gH:=λw S b x=>∃a c2,b=[.int .i64 x.gd,.bool x.nj,.slice a x.gC.length c2]/\gN x.gd/\Sl lj 6 w S a x.gC
theorem jn.ok:jn.Ok:=⟨λ⟨a,c2,e,b,c⟩ d=>⟨a,c2,e,b,c.keep lj.ok d⟩,λ⟨a,c2,e,b,c⟩ d=>⟨a,c2,e,b,c.mono lj.ok d⟩⟩
theorem Sl.lookup {w:World}{S:Bs}{A:Option Addr}{n:List gH}(h:Sl jn 3 w S A n){k:Nat}(c:k<n.length):∃b o x m c2,A=some ⟨b,o,none⟩/\S b/\Hid (n[k]?=some x)/\w.cell? ⟨b,o+k*3,none⟩=some (.int .i64 x.gd)/\w.cell? ⟨b,o+k*3+1,none⟩=some (.bool x.nj)/\w.cell? ⟨b,o+k*3+2,none⟩=some (.slice m x.gC.length c2)/\gN x.gd/\Sl lj 6 w S m x.gC:=by obtain⟨b,o,x,l,e,d,f,g,-,a⟩:=h.get c;obtain⟨m,c2,rfl,i,j⟩:=g;exact⟨b,o,x,m,c2,e,d,f,a 0 _ rfl,a 1 _ rfl,a 2 _ rfl,i,j⟩
def kn:Rel mS:=λw S b x=>∃a c,b=[.string ⟨x.gn.toArray⟩,.slice a x.ge.length c]/\Sl gS 1 w S a x.ge
theorem kn.ok:kn.Ok:=⟨λ⟨a,b,e,c⟩ d=>⟨a,b,e,c.keep gS.ok d⟩,λ⟨a,b,e,c⟩ d=>⟨a,b,e,c.mono gS.ok d⟩⟩
theorem Sl.t' {w:World}{S:Bs}{A:Option Addr}{m:List mS}(h:Sl kn 2 w S A m){k:Nat}(c:k<m.length):∃b o x l c1,A=some ⟨b,o,none⟩/\S b/\Hid (m[k]?=some x)/\w.cell? ⟨b,o+k*2,none⟩=some (.string ⟨x.gn.toArray⟩)/\w.cell? ⟨b,o+k*2+1,none⟩=some (.slice l x.ge.length c1)/\Sl gS 1 w S l x.ge:=by obtain⟨b,o,x,j,e,d,f,g,-,a⟩:=h.get c;obtain⟨l,c1,rfl,i⟩:=g;exact⟨b,o,x,l,c1,e,d,f,a 0 _ rfl,a 1 _ rfl,i⟩
def kI:Rel mT:=λ_ _ a x=>a=[.string ⟨x.gn.toArray⟩,.int .i64 x.km,.int .i64 x.kA,.int .i64 x.kv]/\gN x.km/\gN x.kA/\gN x.kv
theorem kI.ok:kI.Ok:=⟨λh _=>h,λh _=>h⟩
theorem Sl.qS {w:World}{S:Bs}{A:Option Addr}{n:List mT}(h:Sl kI 4 w S A n){k:Nat}(c:k<n.length):∃b o x,A=some ⟨b,o,none⟩/\S b/\Hid (n[k]?=some x)/\w.cell? ⟨b,o+k*4,none⟩=some (.string ⟨x.gn.toArray⟩)/\w.cell? ⟨b,o+k*4+1,none⟩=some (.int .i64 x.km)/\w.cell? ⟨b,o+k*4+2,none⟩=some (.int .i64 x.kA)/\w.cell? ⟨b,o+k*4+3,none⟩=some (.int .i64 x.kv)/\gN x.km/\gN x.kA/\gN x.kv:=by obtain⟨b,o,x,m,e,d,f,g,-,a⟩:=h.get c;obtain⟨rfl,i,j,l⟩:=g;exact⟨b,o,x,e,d,f,a 0 _ rfl,a 1 _ rfl,a 2 _ rfl,a 3 _ rfl,i,j,l⟩
def oT:Rel mC:=λ_ _ a x=>a=[.int .i64 x.start,.int .i64 x.jx,.int .i64 x.jz]/\gN x.start/\gN x.jx/\gN x.jz
theorem oT.ok:oT.Ok:=⟨λh _=>h,λh _=>h⟩
theorem Sl.xo {w:World}{S:Bs}{A:Option Addr}{n:List mC}(h:Sl oT 3 w S A n){k:Nat}(c:k<n.length):∃b o x,A=some ⟨b,o,none⟩/\S b/\Hid (n[k]?=some x)/\w.cell? ⟨b,o+k*3,none⟩=some (.int .i64 x.start)/\w.cell? ⟨b,o+k*3+1,none⟩=some (.int .i64 x.jx)/\w.cell? ⟨b,o+k*3+2,none⟩=some (.int .i64 x.jz)/\gN x.start/\gN x.jx/\gN x.jz:=by obtain⟨b,o,x,m,e,d,f,g,-,a⟩:=h.get c;obtain⟨rfl,i,j,l⟩:=g;exact⟨b,o,x,e,d,f,a 0 _ rfl,a 1 _ rfl,a 2 _ rfl,i,j,l⟩
def ko:Rel Region:=λw S b x=>∃a c,b=[.slice a x.kB.length c]/\Sl oT 3 w S a x.kB
theorem ko.ok:ko.Ok:=⟨λ⟨a,b,e,c⟩ d=>⟨a,b,e,c.keep oT.ok d⟩,λ⟨a,b,e,c⟩ d=>⟨a,b,e,c.mono oT.ok d⟩⟩
theorem Sl.region {w:World}{S:Bs}{A:Option Addr}{n:List Region}(h:Sl ko 1 w S A n){k:Nat}(c:k<n.length):∃b o x l m,A=some ⟨b,o,none⟩/\S b/\Hid (n[k]?=some x)/\w.cell? ⟨b,o+k,none⟩=some (.slice l x.kB.length m)/\Sl oT 3 w S l x.kB:=by obtain⟨b,o,x,j,e,d,f,g,-,a⟩:=h.get c;obtain⟨l,m,rfl,i⟩:=g;simp only[Nat.mul_one]at a;exact⟨b,o,x,l,m,e,d,f,a 0 _ rfl,i⟩
def kt:Rel iu:=λw S i x=>∃a j b c2 c c3 d k e l f m g n h o,i=[.int .i64 x.gt,.slice a x.ga.length j,.slice b x.f6.length c2,.slice c x.ge.length c3,.slice d x.a'.length k,.slice e x.gM.length l,.slice f x.d'.length m,.slice g x.fY.length n,.slice h x.gP.length o]/\gN x.gt/\Sl iA 9 w S a x.ga/\Sl kO 2 w S b x.f6/\Sl jn 3 w S c x.ge/\Sl kn 2 w S d x.a'/\Sl kI 4 w S e x.gM/\Sl ko 1 w S f x.d'/\Sl kx 1 w S g x.fY/\Sl gS 1 w S h x.gP
theorem kt.ok:kt.Ok:=⟨λ⟨b,c,d,c2,f,c3,g,h,i,j,k,l,m,n,o,p,e,q,r,s,t,u,v,w,x,y⟩ a=>⟨b,c,d,c2,f,c3,g,h,i,j,k,l,m,n,o,p,e,q,r.keep iA.ok a,s.keep kO.ok a,t.keep jn.ok a,u.keep kn.ok a,v.keep kI.ok a,w.keep ko.ok a,x.keep kx.ok a,y.keep gS.ok a⟩,λ⟨b,c,d,c2,f,c3,g,h,i,j,k,l,m,n,o,p,e,q,r,s,t,u,v,w,x,y⟩ a=>⟨b,c,d,c2,f,c3,g,h,i,j,k,l,m,n,o,p,e,q,r.mono iA.ok a,s.mono kO.ok a,t.mono jn.ok a,u.mono kn.ok a,v.mono kI.ok a,w.mono ko.ok a,x.mono kx.ok a,y.mono gS.ok a⟩⟩
theorem Sl.D {I:List iu}(h:Sl kt 9 a c v I){k:Nat}(l:k<I.length):∃b o x D c1 E c2 F c3 G c4 H c5 w g d i f j,v=some ⟨b,o,none⟩/\c b/\Hid (I[k]?=some x)/\a.cell? ⟨b,o+k*9,none⟩=some (.int .i64 x.gt)/\a.cell? ⟨b,o+k*9+1,none⟩=some (.slice D x.ga.length c1)/\a.cell? ⟨b,o+k*9+2,none⟩=some (.slice E x.f6.length c2)/\a.cell? ⟨b,o+k*9+3,none⟩=some (.slice F x.ge.length c3)/\a.cell? ⟨b,o+k*9+4,none⟩=some (.slice G x.a'.length c4)/\a.cell? ⟨b,o+k*9+5,none⟩=some (.slice H x.gM.length c5)/\a.cell? ⟨b,o+k*9+6,none⟩=some (.slice w x.d'.length g)/\a.cell? ⟨b,o+k*9+7,none⟩=some (.slice d x.fY.length i)/\a.cell? ⟨b,o+k*9+8,none⟩=some (.slice f x.gP.length j)/\gN x.gt/\Sl iA 9 a c D x.ga/\Sl kO 2 a c E x.f6/\Sl jn 3 a c F x.ge/\Sl kn 2 a c G x.a'/\Sl kI 4 a c H x.gM/\Sl ko 1 a c w x.d'/\Sl kx 1 a c d x.fY/\Sl gS 1 a c f x.gP:=by obtain⟨b,o,x,C,e,m,n,p,-,S⟩:=h.get l;obtain⟨D,c1,E,c2,F,c3,G,c4,H,c5,w,g,d,i,f,j,rfl,q,r,s,t,u,A,y,z,B⟩:=p;exact⟨b,o,x,D,c1,E,c2,F,c3,G,c4,H,c5,w,g,d,i,f,j,e,m,n,S 0 _ rfl,S 1 _ rfl,S 2 _ rfl,S 3 _ rfl,S 4 _ rfl,S 5 _ rfl,S 6 _ rfl,S 7 _ rfl,S 8 _ rfl,q,r,s,t,u,A,y,z,B⟩
section
open Go.MapKept
structure sa (κ :Type) where
 pd: κ ->Value
 d:TypeDesc
 inj:∀ {a b},pd a=pd b->a=b
 key:∀a,IsKey d (pd a)
def oJ:sa B where
 pd a:= .string a
 d:= .string
 inj h:=by
  injection h with h
  injection h with h
  exact List.toArray_inj h
 key a:=trivial
def Ns:sa Int where
 pd a:= .int .i64 a
 d:= .int .i64
 inj h:=by injection h
 key a:=rfl
def j9 {κ :Type}(E:sa κ)(w:World)(b:Nat)(f: κ ->Option Value):Prop:=
 ∃c a,∃d:List (κ ×Value),w.heap[b]?=some (.map c a)/\c.toList.map (λe=>(e.key,e.val))=d.map (λx: κ ×Value=>(E.pd x.1,x.2))/\
  ∀k v,f k=some v ↔ (k,v)∈d
section
variable {κ :Type} {E:sa κ} {w w':World} {b:Nat} {f: κ ->Option Value}
theorem j9.lt (h:j9 E w b f):b<w.heap.size:=by obtain⟨d,a,e,c,_⟩:=h;exact(mq.1 c).1
theorem j9.keep (h:j9 E w b f)(c:w'.heap[b]?=w.heap[b]?):j9 E w' b f:=by obtain⟨d,a,e,g,i⟩:=h;exact⟨d,a,e,c.trans g,i⟩
theorem j9.below (h:j9 E w b f)(a:Below w w w'):j9 E w' b f:=h.keep (a.block b h.lt)
theorem j9.grown (h:j9 E w b f){row:Option Nat}(c:w.grownBy w' row)(a:some b≠row):j9 E w' b f:=h.keep (c.block b h.lt a)
theorem j9.drewN (h:j9 E w b f)(n:Nat):j9 E (w.drewN n) b f:=h
theorem j9.drew (h:j9 E w b f):j9 E w.drew b f:=h
theorem j9.isMap (h:j9 E w b f):∃c a,w.heap[b]?=some (.map c a):=by obtain⟨c,a,e,d,g⟩:=h;exact⟨c,a,d⟩
theorem j9.new (E:sa κ)(w:World):j9 E (w.alloc (.map #[] 0)) w.heap.size (λ_=>none):=⟨#[],0,[],heap_alloc_new w _,rfl,by simp⟩
theorem j9.congr (h:j9 E w b f){g: κ ->Option Value}(c:∀k,g k=f k):j9 E w b g:=by obtain⟨d,a,e,i,j,l⟩:=h;exact⟨d,a,e,i,j,λk v=>by rw[c];exact l k v⟩
theorem j9.find {P:Program}{K:TypeId}(h:j9 E w b f)(t:P.underlying K=some E.d)(k: κ):
  ∃c a,w.heap[b]?=some (.map c a)/\((f k=none/\(Instr.findKey K (E.pd k) c.toList).run P w=.ok none w)\/∃v j,f k=some v/\(Instr.findKey K (E.pd k) c.toList).run P w=.ok (some (j,v)) w):=by
 obtain⟨c,a,z,A,m,u⟩:=h;refine⟨c,a,A,?_⟩;have n:∀x∈c.toList,IsKey E.d x.key:=by
  intro x o;have:(x.key,x.val)∈c.toList.map (λe=>(e.key,e.val)):=mN.2 ⟨x,o,rfl⟩;rw[m,mN]at this;obtain⟨y,_,l⟩:=this;injection l with g i
  rw[<-g];exact E.key _
 rcases findNow_spec (d:=E.d) (E.key k) c.toList 0 n with⟨p,q⟩|⟨j,e,p,q,B⟩
 .refine .inl ⟨?_,run_findKey t p⟩;cases C:f k with
  |none=>rfl
  |some v=>
   have D:=(u k v).1 C;have:(E.pd k,v)∈z.map (λx: κ ×Value=>(E.pd x.1,x.2)):=mN.2 ⟨(k,v),D,rfl⟩;rw[<-m,mN]at this;obtain⟨x,o,l⟩:=this;injection l with g i
   exact absurd g (q x o)
 refine .inr ⟨e.val,0+j,?_,run_findKey t p⟩;have he:e∈c.toList:=kj q;have:(e.key,e.val)∈c.toList.map (λe=>(e.key,e.val)):=mN.2 ⟨e,he,rfl⟩;rw[m,mN]at this;obtain⟨y,l,i⟩:=this;injection i with r s
 have:y.1=k:=E.inj (r.trans B);rw[u];rw[<-this,<-s];exact l
theorem j9.ss {P:Program}{T K i:TypeId}(h:j9 E w b f)(l:P.underlying T=some (.map K i))(a:P.underlying K=some E.d){z:Value}(n:(zeroValue i).run P w=.ok z w)(k: κ):
  (Instr.lookup T (.map (some b)) (E.pd k) true).run P w=.ok (.tuple #[(f k).getD z,.bool (f k).isSome]) w:=by
 obtain⟨o,c,m,⟨e,g⟩|⟨v,j,e,g⟩⟩:=h.find a k
 .simp[Instr.lookup,run_underlying l,MapKept.run_getObj_map m,MapKept.run_checkKey a (E.key k),g,n,Result.andThen,e]
 simp[Instr.lookup,run_underlying l,MapKept.run_getObj_map m,MapKept.run_checkKey a (E.key k),g,Result.andThen,e]
theorem j9.sq {P:Program}{T K i:TypeId}(h:j9 E w b f)(l:P.underlying T=some (.map K i))(a:P.underlying K=some E.d){z:Value}(n:(zeroValue i).run P w=.ok z w)(k: κ):
  (Instr.lookup T (.map (some b)) (E.pd k) false).run P w=.ok ((f k).getD z) w:=by
 obtain⟨o,c,m,⟨e,g⟩|⟨v,j,e,g⟩⟩:=h.find a k
 .simp[Instr.lookup,run_underlying l,MapKept.run_getObj_map m,MapKept.run_checkKey a (E.key k),g,n,Result.andThen,e]
 simp[Instr.lookup,run_underlying l,MapKept.run_getObj_map m,MapKept.run_checkKey a (E.key k),g,Result.andThen,e]
theorem j9.put [DecidableEq κ]{P:Program}{T K x:TypeId}(h:j9 E w b f)(y:P.underlying T=some (.map K x))(q:P.underlying K=some E.d)(k: κ)(v:Value)(m:f k=none):
  ∃w',(Instr.mapUpdate T (.map (some b)) (E.pd k) v).run P w=.ok () w'/\j9 E w' b (λt=>if t=k then some v else f t)/\w.grownBy w' (some b):=by
 obtain⟨z,A,c,B⟩:=h.find q k;obtain⟨r,a,C,g,D,s⟩:=h;rw[g]at c;injection c with c
 injection c with c n
 subst c n;rcases B with⟨_,l⟩|⟨F,j,l,_⟩
 .refine⟨{w with heap:=w.heap.setIfInBounds b (.map (r.push ⟨E.pd k,v,a⟩) (a+1))},?_,⟨r.push ⟨E.pd k,v,a⟩,a+1,C++[(k,v)],(heap_set g).1,?_,?_⟩,⟨rfl,rfl,rfl,by simp,λi hi o=>(heap_set g).2 i (λe=>o (by rw[e]))⟩⟩
  .simp[Instr.mapUpdate,run_underlying y,MapKept.run_getObj_map g,MapKept.run_checkKey q (E.key k),l,MapKept.run_setObj_map _ g,Result.andThen]
  .simp[D]
  intro t u;rw[jp,js,rE];show((if t=k then some v else f t)=some u) ↔ _;by_cases p:t=k
  .subst p;rw[if_pos rfl];constructor
   .intro e;injection e with e;exact .inr ⟨rfl,e.symm⟩
   rintro(e|⟨_,rfl⟩)
   .rw[(s t u).2 e]at m;cases m
   rfl
  rw[if_neg p,s];simp[p]
 rw[m]at l;cases l
end
end
structure PS where
 f:iu
 gt:Bool
 ia:List (B×List Int)
def f0:iu:=⟨0,[],[],[],[],[],[],[],[]⟩
def nx:PS:=⟨f0,false,[]⟩
abbrev Gl:=List (B×Nat)
def bD:Nat->List (List B)->Gl
 |_,[]=>[]
 |n,l::a=>
  match l with
  |w::r=>if w=fB then(match r with|v::_=>if hZ v then [(v,n)]else []|[]=>[])++bD (n+1) a else bD n a
  |[]=>bD n a
theorem Yh (n:Nat)(L:List (List B)):bD n ([]::L)=bD n L:=rfl
def BM (n:Nat)(r:List B):Gl:=match r with|v::_=>if hZ v then [(v,n)]else []|[]=>[]
theorem jG (n:Nat)(w:B)(r:List B)(L:List (List B)):bD n ((w::r)::L)=if w=fB then BM n r++bD (n+1) L else bD n L:=by rw[bD.eq_def];cases r<;>rfl
def aP (e:Int)(t:B):Int:=if e=0/\yI t=false then 21 else e
def bQ (e:Int)(t:B):Int:=if e=0/\hZ t=false then 23 else e
def kV (a:Gl)(e:Int)(t:B):Int:=if e=0/\(a.lookup t).isNone=true then 23 else e
def gX (a:Gl)(t:B):Int:=((a.lookup t).getD 0:Nat)
def gu (e:Int)(l:List B):Int:=l.foldl aP e
def wC (a:Gl)(e:Int)(l:List B):Int:=l.foldl (kV a) e
def dH (c:UInt8)(t:B):B:=t.takeWhile (· !=c)
def dZ (c:UInt8)(t:B):B:=(t.dropWhile (· !=c)).drop 1
def vI (t:B):Int:=if t∈opNames then(opNames.findIdx (· ==t):Int)+1 else 0
def jH (l:List B)(t:B):Int:=if t∈l then(l.findIdx (· ==t):Int)+1 else 0
def uH (e:Int)(t:B):Int:=if t.contains 58 then aP (if e=0/\vI (dH 58 t)=0 then 23 else e) (dZ 58 t)else if e=0/\vI (dH 58 t)=0 then 23 else e
def lD (t:B):Ins:=⟨vI (dH 58 t),if t.contains 58 then aI (dZ 58 t)else 0⟩
def AX (l:List B):Bool:=l.all (λt=>t.count 58<=1)
def og (t:B):Bool:=t.count 44==1 && (!t.contains 42||t.idxOf 42==t.length - 1)
def fC (t:B):B:=if t.getLast? =some 42 then t.dropLast else t
def AB (e:Int)(t:B):Int:=aP (aP e (dH 44 (fC t))) (dZ 44 (fC t))
def uo (t:B):Pt:=⟨aI (dH 44 (fC t)),aI (dZ 44 (fC t)),t.getLast? !=some 42⟩
def BK (l:List B):Bool:=l.all (λt=>t.count 58==1)
def oI (e:Int)(t:B):Int:=aP (aP e (dH 58 t)) (dZ 58 t)
def mZ (t:B):Call:=⟨aI (dH 58 t),aI (dZ 58 t)⟩
def fP:Bool->List B->List (List B)->List B->Option (List (List B))
 |op,_,a,[]=>if op then none else some a
 |op,b,a,w::r=>
  if w=[91]then(if op then none else fP true [] a r)
  else if w=[93]then(if op then fP false [] (a++[b]) r else none)
  else if op then fP true (b++[w]) a r
  else fP false [] (a++[[w]]) r
def fK (a:List B):Option (List (List B)):=fP false [] [] a
def pR (b:Gl)(a:List (B×List Int))(t:B):Except Int (List Int):=
 match t with
 |64::r=>match a.lookup r with|some c=> .ok c|none=> .error 23
 |_=>match b.lookup t with|some n=> .ok [(n:Int)]|none=> .error 23
def qH (b:Gl)(a:List (B×List Int)):List Int->List B->Except Int (List Int)
 |acc,[]=> .ok acc
 |acc,t::r=>match pR b a t with
  | .error e=> .error e
  | .ok c=>if 1000<(acc++c).length then .error 2 else qH b a (acc++c) r
def mX (c:Gl)(a:List (B×List Int)):List (List B)->Except Int (List (List Int))
 |[]=> .ok []
 |l::r=>match qH c a [] l with
  | .error e=> .error e
  | .ok x=>match mX c a r with| .error e=> .error e| .ok b=> .ok (x::b)
def rH (n:Int):List Int->List Int
 |[]=>[n]
 |x::r=>if n<x then n::x::r else if n=x then x::r else x::rH n r
def setOf (l:List Int):List Int:=l.foldr rH []
abbrev mA:=Except Int PS
def fin (e:Int)(s:PS):mA:=if e=0 then .ok s else .error e
def sG (s:PS)(l:List B):mA:=
 match l with
 |[t]=>if aP 0 t≠0 then .error (aP 0 t)else if s.gt then .error 24 else .ok {s with gt:=true,f:= {s.f with gt:=aI t}}
 |_=> .error 22
def Bc (s:PS)(l:List B):mA:=
 match l with
 |[n,a,b,c]=>fin (aP (aP (aP (bQ 0 n) a) b) c) {s with f:= {s.f with gM:=s.f.gM++[⟨n,aI a,aI b,aI c⟩]}}
 |_=> .error 22
def dX:List Int->List mC
 |a::b::c::r=>⟨a,b,c⟩::dX r
 |_=>[]
def ui (s:PS)(l:List B):mA:=if l.length % 3≠0 then .error 22 else fin (gu 0 l) {s with f:= {s.f with d':=s.f.d'++[⟨dX (l.map aI)⟩]}}
def Ui (s:PS)(l:List B):mA:=fin (gu 0 l) {s with f:= {s.f with gP:=s.f.gP++l.map aI}}
def Bf (s:PS)(l:List B):mA:=if AX l=false then .error 22 else fin (l.foldl uH 0) {s with f:= {s.f with fY:=s.f.fY++[l.map lD]}}
def mV (b:Gl)(s:PS)(l:List B):mA:=
 match l with
 |[]=> .error 22
 |n::r=>match fK r with
  |some [a]=>if bQ 0 n≠0 then .error (bQ 0 n)else match qH b s.ia [] a with
   | .error e=> .error e
   | .ok g=>if(s.ia.lookup n).isSome then .error 24 else .ok {s with ia:=s.ia++[(n,g)]}
  |_=> .error 22
def jv (b:Gl)(s:PS)(l:List B):mA:=
 match l with
 |n::a::r=>if r=[]\/r=[jo]then
   (if aP (bQ 0 n) a≠0 then .error (aP (bQ 0 n) a)else if gX b n≠s.f.ga.length then .error 24
   else .ok {s with f:= {s.f with ga:=s.f.ga++[⟨n,aI a,!r.isEmpty,[],[],[],[],[],[]⟩]}})
  else .error 22
 |_=> .error 22
def vG (s:PS)(h:hU->hU):PS:= {s with f:= {s.f with ga:=s.f.ga.dropLast++(s.f.ga.getLast?.map h).toList}}
def kG (s:PS)(l:List B):mA:=
 if s.f.ga=[]then .error 22 else if l=[]\/l.all og=false then .error 22
 else fin (l.foldl AB 0) (vG s λg=> {g with gk:=g.gk++l.map uo,gO:=g.gO++[((g.gk.length+l.length:Nat):Int) - 1]})
def wY (a:Gl)(s:PS)(l:List B):mA:=
 if s.f.ga=[]then .error 22 else
 match l with
 |[n,x,y]=>fin (aP (aP (kV a 0 n) x) y) (vG s λg=> {g with gi:=g.gi++[⟨gX a n,aI x,aI y⟩]})
 |_=> .error 22
def lX (s:PS)(l:List B):mA:=
 if s.f.ga=[]then .error 22 else
 match l with
 |[n,c,x,y]=>if jH anchorNames n=0 then .error 22 else fin (gu 0 [c,x,y]) (vG s λg=> {g with gh:=g.gh++[⟨jH anchorNames n,aI c,aI x,aI y⟩]})
 |_=> .error 22
def rV (s:PS)(l:List B):mA:=
 if s.f.ga=[]then .error 22 else
 match l with
 |[r,p,x,y]=>fin (gu 0 [r,p,x,y]) (vG s λg=> {g with gx:=g.gx++[⟨aI r,aI p,aI x,aI y⟩]})
 |_=> .error 22
def wX (s:PS)(l:List B):mA:=
 if s.f.ga=[]then .error 22 else if AX l=false then .error 22
 else fin (l.foldl uH 0) (vG s λg=> {g with gR:=g.gR++l.map lD})
def Be (a:Gl)(s:PS)(l:List B):mA:=
 match l with
 |[c,n]=>fin (kV a (aP 0 c) n) {s with f:= {s.f with f6:=s.f.f6++[⟨aI c,gX a n⟩]}}
 |_=> .error 22
def tq (s:PS)(l:List B):mA:=
 match l with
 |n::r=>fin (gu (bQ 0 n) r) {s with f:= {s.f with a':=s.f.a'++[⟨n,r.map aI⟩]}}
 |[]=> .error 22
def jB (s:PS)(l:List B):mA:=
 match l with
 |k::r=>if r=[]\/r=[fO]then(if jH aH k=0 then .error 22 else .ok {s with f:= {s.f with ge:=s.f.ge++[⟨jH aH k,!r.isEmpty,[]⟩]}})else .error 22
 |[]=> .error 22
def jA:Nat->List B->List (List B)->List B->Option (List (List B))
 |n,b,a,[]=>if n=3 then some (a++[b])else none
 |n,b,a,w::r=>
  if w≠[47]/\w≠[62]then jA n (b++[w]) a r
  else if(n<2/\w=[47])\/(n=2/\w=[62])then jA (n+1) [] (a++[b]) r else none
def rU (l:List B):Option (List (List B)):=jA 0 [] [] l
def fF (a:Int)(l:List B):Bool:=if a=4 then BK l else if a=6 then l.length==1 else if a=7\/a=8 then l.length==0 else true
def nY (s:PS)(h:gH->gH):PS:= {s with f:= {s.f with ge:=s.f.ge.dropLast++(s.f.ge.getLast?.map h).toList}}
def gz (written a:List Int):Except Int (List Int):=
 if ¬written.Nodup then .error 24 else if a.length≠written.length then .error 22
 else .ok ((setOf written).map (λg=>a.getD (written.idxOf g) 0))
def gK (t:Gl)(s:PS)(l:List B):mA:=
 match s.f.ge.getLast? with
 |none=> .error 22
 |some c=>match rU l with
  |some [k,m,n,g]=>match fK k,fK m,fK n with
   |some p,some j,some q=>
    if(c.gd=1\/c.gd=5)/\j.length≠1 then .error 22 else if fF c.gd g=false then .error 22 else
    match mX t s.ia p with
    | .error e=> .error e
    | .ok b=>match mX t s.ia j with
     | .error e=> .error e
     | .ok i=>match mX t s.ia q with
      | .error e=> .error e
      | .ok a=>
       let d:=c.gd=1\/c.gd=2\/c.gd=3\/c.gd=5
       let e:=if d then wC t 0 g else if c.gd=4 then g.foldl oI 0 else if c.gd=6 then gu 0 g else 0
       if e≠0 then .error e else
       let h:=if d then g.map (gX t)else []
       let r:k':=⟨b.map setOf,i.map setOf,a.map setOf,h,if c.gd=4 then g.map mZ else [],if c.gd=6 then aI (g.headD [])else 0⟩
       if c.gd=1\/c.gd=5 then(match gz (i.headD []) h with
        | .error e=> .error e
        | .ok o=> .ok (nY s λc=> {c with gC:=c.gC++[{r with out:=o}]}))
       else .ok (nY s λc=> {c with gC:=c.gC++[r]})
   |_,_,_=> .error 22
  |_=> .error 22
def stmt (a:Gl)(s:PS)(l:List B):mA:=
 match l with
 |[]=> .error 22
 |w::r=>
  if w=nN then sG s r else if w=wZ then Bc s r else if w=kY then ui s r else if w=oO then Ui s r
  else if w=sH then Bf s r else if w=CB then mV a s r else if w=fB then jv a s r else if w=ik then kG s r
  else if w=sJ then wY a s r else if w=lY then lX s r else if w=pO then rV s r else if w=qG then wX s r
  else if w=xe then Be a s r else if w=iW then jB s r else if w=ku then gK a s r else if w=kH then tq s r
  else .error 22
def stmts (b:Gl):PS->List (Int×List B)->Except (Int×Int) PS
 |s,[]=> .ok s
 |s,(n,l)::r=>match stmt b s l with| .error e=> .error (n,e)| .ok a=>stmts b a r
def iv (a:B):List (Int×List B):=(iH a).map (λl=>((l.head?.map (·.1)).getD 0,l.map (·.2.2)))
def qU (a:B):Except (Int×Int) iu:=(stmts (bD 0 ((iv a).map (·.2))) nx (iv a)).map (·.f)
def dM:Bool->List P3->List (List P3)->List P3->Option (List (List P3))
 |op,_,a,[]=>if op then none else some a
 |op,b,a,w::r=>
  if w.2.2=[91]then(if op then none else dM true [] a r)
  else if w.2.2=[93]then(if op then dM false [] (a++[b]) r else none)
  else if op then dM true (b++[w]) a r
  else dM false [] (a++[[w]]) r
def jK (a:List P3):Option (List (List P3)):=dM false [] [] a
theorem rI (a:List (List P3))(w:P3)(r:List P3)(h:w.2.2=[91]):dM false [] a (w::r)=dM true [] a r:=by rw[dM,if_pos h];simp
theorem U5 (row:List P3)(a:List (List P3))(w:P3)(r:List P3)(h:w.2.2=[91]):dM true row a (w::r)=none:=by rw[dM,if_pos h];simp
theorem GP (row:List P3)(a:List (List P3))(w:P3)(r:List P3)(h:w.2.2=[93]):dM true row a (w::r)=dM false [] (a++[row]) r:=by rw[dM,if_neg (by rw[h];decide),if_pos h];simp
theorem Sj (a:List (List P3))(w:P3)(r:List P3)(h:w.2.2=[93]):dM false [] a (w::r)=none:=by rw[dM,if_neg (by rw[h];decide),if_pos h];simp
theorem ux (row:List P3)(a:List (List P3))(w:P3)(r:List P3)(b:w.2.2≠[91])(c:w.2.2≠[93]):dM true row a (w::r)=dM true (row++[w]) a r:=by rw[dM,if_neg b,if_neg c];simp
theorem GO (a:List (List P3))(w:P3)(r:List P3)(b:w.2.2≠[91])(c:w.2.2≠[93]):dM false [] a (w::r)=dM false [] (a++[[w]]) r:=by rw[dM,if_neg b,if_neg c];simp
theorem yH (c:List P3)(k:Nat)(w:P3)(h:c[k]?=some w):c.drop k=w::c.drop (k+1):=by obtain⟨a,b⟩:=ll.1 h;rw[List.drop_eq_getElem_cons a,b]
def iO (t b:TypeId)(w:World)(c:List P3)(e:Ending)(w':World):Prop:=
 match jK c with
 |none=>e=.returned (.tuple #[(),.bool false])/\Below w w w'
 |some a=>∃v,e=.returned (.tuple #[v,.bool true])/\yM t b w w' a v
theorem BC {t tr:TypeId}{w':World}(h:jK s=none)(b:Below a a w'):iO t tr a s (.returned (.tuple #[(),.bool false])) w':=by unfold iO;rw[h];exact⟨rfl,b⟩
def sN (t f:TypeId)(w:World)(e:List P3)(k:Nat)(c:Value)(d:World):Prop:=∃a b,b.length<=k/\dM false [] a (e.drop k)=jK e/\d.ownsRow w.heap.size f 1 c b.length b/\RowsIn t d b a/\Below w w d
def yX (t i:TypeId)(w:World)(h:List P3)(k:Nat)(e f:Value)(g:World):Prop:=
 ∃b d a c,d.length<=k/\a.length<=k/\dM true a b (h.drop k)=jK h/\c.ownsRow w.heap.size i 1 e d.length d/\RowsIn t c d b/\Below w w c/\
  Below c.heap.size c g/\g.ownsRow c.heap.size t 3 f a.length (dP a)
theorem Ox (t d:TypeId)(w:World)(e:List P3)(a:Value)(c:World)(h:c.ownsRow w.heap.size d 1 a 0 [])(b:Below w w c):sN t d w e 0 a c:=⟨[],[],by simp,by simp[jK],h,RowsIn.nil _ _,b⟩
theorem UF {p:List P3}{k n c:Nat}(h:sN t o a p k (v n c) r)(j:p.length<=k):iO t o a p (.returned (.tuple #[v n c,.bool true])) r:=by obtain⟨q,b,-,d,f,g,l⟩:=h;rw[sj j,dM]at d;obtain⟨m,w,e,-⟩:=Rd.U f;simp only[oa]at e;obtain⟨rfl,rfl,rfl⟩:=e;have i:b.length=q.length:=g.1;unfold iO;rw[<-d];refine⟨_,rfl,v,c,b,by rw[i],?_,g,l⟩;rw[<-i];exact jX f
theorem UD {p:List P3}{k:Nat}(e:yX t o a p k d h r)(f:p.length<=k):jK p=none/\Below a a r:=by obtain⟨q,j,g,l,-,-,b,m,n,c,i,w⟩:=e;rw[sj f,dM]at b;exact⟨by rw[<-b];rfl,c.trans (i.mono c.size)⟩
theorem Qs {k:Nat}(e:sN t o a s k d C){p:P3}(i:s[k]?=some p)(b:p.2.2=[91])(c:Below C C r)(u:World)(j:u.ownsRow r.heap.size t 3 h 0 [])(w:Below r r u):yX t o a s (k+1) d h u:=by obtain⟨v,l,q,m,n,f,g⟩:=e;refine⟨v,l,[],r,by omega,by simp,?_,gj n c,f.below c,g.trans (c.mono g.size),w,j⟩;rw[<-m,yH s k p i,rI _ _ _ b]
theorem UE {n:List P3}{k:Nat}{c:Value}(h:sN t o a n k c r){p:P3}(d:n[k]?=some p)(e:p.2.2=[93])(f:Below r r C):iO t o a n (.returned (.tuple #[(),.bool false])) C:=by obtain⟨q,i,j,g,l,m,b⟩:=h;refine BC ?_ (b.trans (f.mono b.size));rw[<-g,yH n k p d,Sj _ _ _ e]
theorem UC {k:Nat}(e:yX t o a s k d h r){p:P3}(g:s[k]?=some p)(A:p.2.2=[91])(i:Below r r C):iO t o a s (.returned (.tuple #[(),.bool false])) C:=by obtain⟨b,n,j,w,q,z,l,y,u,c,f,v⟩:=e;have m:=c.size;have x:=f.size;refine BC ?_ ((c.trans (f.mono m)).trans (i.mono (by omega)));rw[<-l,yH s k p g,U5 _ _ _ _ A]
theorem VD {t tr:TypeId}{k:Nat}{v6:Value}{W1 W2:World}{c:List Value}{row:List P3}(y:c.length<=k)(z:row.length<=k)(m:dM true row u (s.drop k)=jK s)(n:C.ownsRow a.heap.size tr 1 h c.length c)(o:RowsIn t C c u)(q:Below a a C)(j:Below C C r)(w:r.ownsRow C.heap.size t 3 d row.length (dP row)){p:P3}(b:s[k]?=some p)(f:p.2.2≠[91])(i:p.2.2≠[93])(l:Below r r W1)(D:W2.ownsRow C.heap.size t 3 v6 (row.length+1) (dP row++c3 p))(v:W1.grownBy W2 d.ownBlock):yX t tr a s (k+1) h v6 W2:=by
 refine⟨u,c,row++[p],C,by omega,by simp;omega,?_,n,o,q,?_,?_⟩
 .rw[<-m,yH s k p b,ux _ _ _ _ f i]
 .have x:=j.size;have A:=l.size;exact(j.trans (l.mono x)).grown v (by omega) (λg e=>(w.lt g e).1)
 rw[Df,la];simpa [dP]using D
theorem Ou {t tr:TypeId}{k c5:Nat}{v6:Value}{W1 W2:World}{row:List P3}{c:World}(C:m.length<=k)(H:dM true row u (s.drop k)=jK s)(n:c.ownsRow a.heap.size tr 1 d m.length m)(G:RowsIn t c m u)(o:Below a a c)(q:Below c c r)(h:r.ownsRow c.heap.size t 3 (v i c5) row.length (dP row)){p:P3}(b:s[k]?=some p)(x:p.2.2=[93])(I:Below r r W1)(f:W2.ownsRow a.heap.size tr 1 v6 (m.length+1) (m++[v i c5]))(w:W1.grownBy W2 d.ownBlock)(j:t≠tr):sN t tr a s (k+1) v6 W2:=by
 have y:=o.size;have z:=q.size;have D:=I.size;have A:i=row.length:=by obtain⟨E,F,e,-⟩:=Rd.U h;simp only[oa]at e;exact e.2.1
 subst A;have l:Below c c W1:=q.trans (I.mono z);have B:RowsIn t W1 (m++[v row.length c5]) (u++[row]):=(G.below l).snoc (jX (gj h I)) (yP h);refine⟨u++[row],m++[v row.length c5],by simp;omega,?_,by simpa using f,?_,?_⟩
 .rw[<-H,yH s k p b,GP _ _ _ _ x]
 .exact B.grown (gj n l) w j
 exact(o.trans (l.mono y)).grown w (by omega) (λg e=>(n.lt g e).1)
theorem Ov {t tr:TypeId}{k c5:Nat}{A5:Option Addr}{v6:Value}{W1 W2:World}(y:m.length<=k)(o:dM false [] u (s.drop k)=jK s)(l:r.ownsRow a.heap.size tr 1 d m.length m)(q:RowsIn t r m u)(A:Below a a r){p:P3}(C:s[k]?=some p)(f:p.2.2≠[91])(w:p.2.2≠[93])(j:Below r r W1)(b:i7 W1 t A5 1 3 (dP [p]))(h:1<=c5)(c:W2.ownsRow a.heap.size tr 1 v6 (m.length+1) (m++[A5 1 c5]))(n:W1.grownBy W2 d.ownBlock)(i:t≠tr):sN t tr a s (k+1) v6 W2:=by
 have v:=A.size;have z:=j.size;have x:RowsIn t W1 (m++[A5 1 c5]) (u++[[p]]):=(q.below j).snoc b h;refine⟨u++[[p]],m++[A5 1 c5],by simp;omega,?_,by simpa using c,?_,?_⟩
 .rw[<-o,yH s k p C,GO _ _ _ f w]
 .exact x.grown (gj l j) n i
 exact(A.trans (j.mono v)).grown n (by omega) (λg e=>(l.lt g e).1)
theorem i7.new (c:Array Value)(t:TypeId)(n b:Nat)(h:c.size=n*b):i7 (p.alloc (.cells c t)) t (p,0) n b c.toList:=⟨by simpa using h,λ_=>⟨_,0,c,rfl,Bk.new p t c,λj u a=>by simpa using a⟩⟩
theorem mi (s:ByteArray)(k:Nat):Below p p (p.iter s k):=(gD _ _).alloc (ae _) _
theorem Ed (s:B):Calls Tryz.prog 42 #[.string s] p λe v=>e=.returned (.bool (hZ s))/\Below p p v:=by
 by_cases hl:s.length<1\/16<s.length
 .have n:=J (CM s hl);go_enter Tryz.func42,Tryz.ntmps42
  rcases hl with hl|hl
  .go_wp2;go_ret
   exact⟨by rw[n.out];rfl,gD _ _⟩
  go_wp2;go_ret
  exact⟨by rw[n.out];rfl,gD _ _⟩
 have x:1<=s.length:=by omega
 have y:s.length<=16:=by omega
 clear hl;go_enter Tryz.func42,Tryz.ntmps42
 go_wp2;go_loopw [3] (λ_ wr=>∃k:Nat,wr=p.iter ⟨s.toArray⟩ k/\k<=s.length/\∀j c,j<k->s[j]?=some c->nameAt j c=true) (λ_ wr=>s.length - wr.iterPos p.heap.size)
 case atStart=>exact⟨0,rfl,by omega,by omega⟩
 case round=>
  obtain⟨k,rfl,C,a⟩:=hrel;by_cases b:k<s.length
  .obtain⟨c,i⟩:∃c,s[k]?=some c:=⟨_,jO b⟩
   have l:=byte_at s k c i b;by_cases z:c.toNat<128
   .have g:∀f,(Instr.next (.pointer (p,0)) true f).run Tryz.prog (p.iter ⟨s.toArray⟩ k)=_:=λf=>run_next_ascii p ⟨s.toArray⟩ k f b (by rw[l];exact z)
    rw[l]at g;have m:Hid (nameAt k c=true->(∃o:Nat,p.iter ⟨s.toArray⟩ (k+1)=p.iter ⟨s.toArray⟩ o/\o<=s.length/\∀j c,j<o->s[j]?=some c->nameAt j c=true)/\s.length - (p.iter ⟨s.toArray⟩ (k+1)).iterPos p.heap.size<s.length - (p.iter ⟨s.toArray⟩ k).iterPos p.heap.size):=by
     intro A;refine⟨⟨k+1,rfl,by omega,λj d E w=> ?_⟩,by simp;omega⟩;by_cases q:j=k
     .subst q;rw[i]at w;cases w;exact A
     exact a j d (by omega) w
    have h:=J (JL s k c i);clear i a l;go_wp2
    all_goals first
     |(refine m ((rf k c).2 ?_);simp only[beq_iff_eq,beq_eq_false_iff_ne,ne_eq]at*;omega)
     |(go_ret;refine⟨?_,mi _ _ _⟩;rw[h.out (by rw[<-Bool.not_eq_true,rf];simp only[beq_iff_eq,beq_eq_false_iff_ne,ne_eq]at*;omega)];rfl)
     |trace_state
   obtain⟨t,-⟩:=decode_high ⟨s.toArray⟩ k b (by rw[l];omega);have u:=decode_le ⟨s.toArray⟩ k;have g:∀f,(Instr.next (.pointer (p,0)) true f).run Tryz.prog (p.iter ⟨s.toArray⟩ k)=_:=λf=>run_next_any p ⟨s.toArray⟩ k f b
   have h:=J (JL s k c i (U9 (by omega)));clear i a l;generalize Utf8.decode ⟨s.toArray⟩ k=D at*
   obtain⟨r,F⟩:=D;simp only at t u g;go_wp2
   all_goals first
    |(exfalso;simp only[beq_iff_eq,beq_eq_false_iff_ne,ne_eq]at*;omega)
    |(go_ret;exact⟨by rw[h.out];rfl,mi _ _ _⟩)
    |trace_state
  obtain rfl:k=s.length:=by omega
  have n:=J ((FZ s a).trans (decide_eq_true ⟨x,y⟩));have g:∀f,(Instr.next (.pointer (p,0)) true f).run Tryz.prog (p.iter ⟨s.toArray⟩ s.length)=_:=λf=>run_next_end p ⟨s.toArray⟩ s.length f b
  clear a;go_wp2;go_ret
  exact⟨by rw[n.out];rfl,mi _ _ _⟩
