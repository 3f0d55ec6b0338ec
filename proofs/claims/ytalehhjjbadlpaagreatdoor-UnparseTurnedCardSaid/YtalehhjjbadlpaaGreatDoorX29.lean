/- Lemmas. -/
import Derived.Test.YtalehhjjbadlpaaGreatDoorMkM
import Derived.Test.YtalehhjjbadlpaaGreatDoorX25
import Derived.Handy
set_option linter.all false
set_option maxRecDepth 100000
set_option maxHeartbeats 32000000
namespace Go.Proofs.YtalehhjjbadlpaaGreatDoor
open Go.RowKit
variable{i:List Value}{e b:Nat}{h a:World}(v:World){m:Option Addr}{t:Array Value}{u:iu}
theorem Ng {T E size:Nat}(a:Tryz.prog.underlying T=some (.slice E))(b:∀w,(sizeOf E).run Tryz.prog w=.ok size w)(A:Option Addr)(n c k:Nat)(z:Int)(d:z=(k:Int))(e:k<=c)(w:World):
  (Instr.slice T (A n c) none (some (.int .i64 z)) none).run Tryz.prog w=.ok (.slice (if c=0 then A else A.map (·.add 0)) k c) w:=by
 subst d;simp[Instr.slice,Instr.sliceBounds,Instr.sliceBound,asIntOf,run_underlying a,b,Result.andThen,e]
theorem Rd.pre {n c k:Nat}{zs:List Int}(B:Rd h e m n 1 (aC zs))(g:k<=n)(i:n<=c):Rd h e (if c=0 then m else m.map (·.add 0)) k 1 (aC (zs.take k)):=by
 have d:=B.1;simp only[aC,lE]at d;refine⟨by simp only[aC,lE,ot];omega,λl=> ?_⟩;obtain⟨b,o,rfl,A,f⟩:=B.2 (by omega);rw[if_neg (by omega)];refine⟨b,o,rfl,A,λj u a=>f j u ?_⟩;simp only[aC,List.map_take,pY]at a;split at a
 .exact a
 cases a
def One {α:Type}(R:Rel α):Prop:=∀w S a x,R w S a x->∀u∈a,u.oneCell'=true
theorem One.int:One gS:=λw S b x h u a=>by obtain⟨rfl,-⟩:=h;simp at a;subst a;rfl
theorem One.ins:One ky:=λw S b x h u a=>by obtain⟨rfl,-⟩:=h;simp at a;rcases a with rfl|rfl<;>rfl
theorem One.part:One lS:=λw S b x h u a=>by obtain⟨rfl,-⟩:=h;simp at a;rcases a with rfl|rfl|rfl<;>rfl
theorem One.M:One mc:=λw S b x h u a=>by obtain⟨rfl,-⟩:=h;simp at a;rcases a with rfl|rfl|rfl|rfl<;>rfl
theorem One.asg:One md:=λw S b x h u a=>by obtain⟨rfl,-⟩:=h;simp at a;rcases a with rfl|rfl|rfl|rfl<;>rfl
theorem One.Y:One kO:=λw S b x h u a=>by obtain⟨rfl,-⟩:=h;simp at a;rcases a with rfl|rfl<;>rfl
theorem One.z:One iA:=λw S b x h u a=>by
 obtain⟨c,c3,d,e,f,g,i,j,k,l,m,n,rfl,-⟩:=h;simp at a;rcases a with rfl|rfl|rfl|rfl|rfl|rfl|rfl|rfl|rfl<;>rfl
theorem One.X:One lj:=λw S b x h u a=>by
 obtain⟨c,d,e,f,g,c2,i,c3,j,k,rfl,-⟩:=h;simp at a;rcases a with rfl|rfl|rfl|rfl|rfl|rfl<;>rfl
theorem One.look:One jn:=λw S b x h u a=>by
 obtain⟨c,c2,rfl,-⟩:=h;simp at a;rcases a with rfl|rfl|rfl<;>rfl
theorem One.tn:One kn:=λw S b x h u a=>by
 obtain⟨c,c2,rfl,-⟩:=h;simp at a;rcases a with rfl|rfl<;>rfl
theorem One.qS:One kI:=λw S b x h u a=>by obtain⟨rfl,-⟩:=h;simp at a;rcases a with rfl|rfl|rfl|rfl<;>rfl
theorem One.tH:One ko:=λw S b x h u a=>by obtain⟨A,c,rfl,-⟩:=h;simp at a;subst a;rfl
theorem One.code:One kx:=λw S b x h u a=>by obtain⟨A,c,rfl,-⟩:=h;simp at a;subst a;rfl
section
variable {α:Type} {R:Rel α} {size:Nat} {w w':World} {S:Bs} {cells:List Value} {xs:List α} {A:Option Addr}
theorem Fl.xV (one:One R)(c:0<size)(h:Fl R size w S cells xs):∀u∈cells,u.oneCell'=true:=λu d=>by
 obtain⟨i,hi⟩:=pn.1 d;have a:=(ll.1 hi).1;rw[h.1]at a;have e:i / size<xs.length:=Nat.div_lt_of_lt_mul (by rw[Nat.mul_comm];exact a);obtain⟨f,g,j,k⟩:=h.2 (i / size) _ (jO e);have b:i % size<f.length:=by rw[j];exact Nat.mod_lt _ c
 have:=k (i % size) _ (jO b);rw[Nat.mul_comm,Nat.div_add_mod,hi]at this;cases this;exact one _ _ _ _ g _ (List.getElem_mem b)
theorem Sl.yd (one:One R)(c:0<size)(d:∀b,S b->b<w)(h:Sl R size w S A xs):∃cells,Fl R size w S cells xs/\Rd w w.heap.size A xs.length size cells/\∀u∈cells,u.oneCell'=true:=by obtain⟨cells,a,f⟩:=h;refine⟨cells,a,⟨a.1,λg=> ?_⟩,a.xV one c⟩;obtain⟨b,o,e,i,j⟩:=f g;exact⟨b,o,e,d b i,j⟩
theorem Fl.put (f:Fl R size w S cells xs){i:Nat}{x l:α}(n:xs[i]?=some x){k:Nat}(q:k<size)(v:Value)(p:∀s,R w S s x->s.length=size->R w S (s.set k v) l):Fl R size w S (cells.set (i*size+k) v) (xs.set i l):=by
 have hi:=(ll.1 n).1;refine⟨by simp[f.1],λj y b=> ?_⟩;by_cases e:i=j
 .subst e;rw[List.getElem?_set_self hi]at b;cases b;obtain⟨s,g,c,d⟩:=f.2 i x n;refine⟨s.set k v,p s g c,by simp[c],λm u a=> ?_⟩;by_cases o:k=m
  .subst o;rw[List.getElem?_set_self (by omega)]at a;cases a;have:=(ll.1 (d k _ (jO (by omega)))).1;rw[List.getElem?_set_self this]
  rw[List.getElem?_set_ne o]at a;rw[List.getElem?_set_ne (by omega)];exact d m u a
 rw[List.getElem?_set_ne e]at b;obtain⟨s,g,c,d⟩:=f.2 j y b;refine⟨s,g,c,λm u a=> ?_⟩;have r:=(ll.1 a).1;have:i*size+k≠j*size+m:=by
  rcases Nat.lt_or_gt_of_ne e with h|h
  .have:=xw size (show i+1<=j from h);rw[rF]at this;omega
  have:=xw size (show j+1<=i from h);rw[rF]at this;omega
 rw[List.getElem?_set_ne this];exact d m u a
theorem Bk.sl {g:Nat}{t:TypeId}{a:Array Value}(b:Bk w g t a)(c:∀(j:Nat) u,cells[j]?=some u->a[j]?=some u)(d:Fl R size w S cells xs)(e:S g):Sl R size w S (g,0) xs:=⟨cells,d,λ_=>⟨g,0,rfl,e,λj u f=>by rw[mU];exact(b.cell j).trans (c j u f)⟩⟩
theorem Sl.put (m:R.Ok){g:Nat}{t:TypeId}{a:Array Value}(p:Bk w g t a)(n:∀(j:Nat) u,cells[j]?=some u->a[j]?=some u)(q:Fl R size w S cells xs)(r:¬S g){i:Nat}{x o:α}(s:xs[i]?=some x){k:Nat}(y:k<size)(v:Value)
  (z:∀E,R w S E x->E.length=size->R w S (E.set k v) o):Sl R size (w.setCell (g,i*size+k) v) (λb=>S b\/b=g) (g,0) (xs.set i o):=by
 have B:=q.put s y v z;have C:Same S w (w.setCell (g,i*size+k) v):=λb f=>Below.heap_setCell w (g,i*size+k) v b (λe=>r (by have D:b=g:=e;rw[<-D];exact f))
 refine(p.set (i*size+k) v).sl (λj u c=> ?_) ((B.keep m C).mono m λb h=> .inl h) (.inr rfl);by_cases e:i*size+k=j
 .subst e;have d:i*size+k<cells.length:=by have:=(ll.1 c).1;simpa using this
  rw[List.getElem?_set_self d]at c;cases c;have:=n _ _ (jO d);have l:=(mq.1 this).1;simp[l]
 rw[List.getElem?_set_ne e]at c;rw[Array.getElem?_setIfInBounds_ne e];exact n j u c
theorem NZ {q n c:Nat}{e:TypeId}(h:w.ownsRow q e size (A n c) n cells)(o:0<n)(p:0<size):∃g a,A=some ⟨g,0,none⟩/\q<=g/\Bk w g e a/\∀(j:Nat) u,cells[j]?=some u->a[j]?=some u:=by
 rcases h.2 with⟨b,d⟩|⟨g,i,a,b,k,f,l,-⟩
 .omega
 simp only[oa,true_and]at b;obtain⟨rfl,rfl⟩:=b;refine⟨g,a,rfl,k,f,λj u m=> ?_⟩;have:=h.cells (g:=g) rfl j u m;rw[jt]at this;have d:=Bk.cell (w:=w) f j;simp only[mU]at this;rw[d]at this;exact this
end
theorem Tf.low {w':World}(c:Below h h w'):∀b,Tf h b->Tf w' b:=λb ⟨d,t,a,e⟩=>⟨d,t,(c.block b a.lt).trans a,e⟩
theorem Sl.tf {α:Type}{R:Rel α}(c:R.Ok){w':World}{xs:List α}(size:Sl R e h (Tf h) m xs)(a:Below h h w'):Sl R e w' (Tf w') m xs:=size.C c ⟨λb d=>a.block b (Tf.lt b d),Tf.low a⟩
section
attribute [-go_sem] storeVar
theorem Qq {a:Array Value}(c:h.heap[e]?=some (.cells t gI (0,0)))(b:t.size=9)(d:a.getD 2 undef=.pointer (e,0):=by rfl):(results Tryz.f5 a).run Tryz.prog h=.ok (.agg t) h:=by rw[pM (fn:=Tryz.f5) (p:=2) (ty:=gI) rfl,d];have:=run_loadVar_row (P:=Tryz.prog) h e gI gI t (0,0) _ c Tryz.underlying32 rfl (by rw[zJ,b]);simp[asAddr,Result.andThen,this]
theorem Kj (A:Option Addr)(n c:Nat)(zs:List Int)(S:n<=c)(L:Rd v v.heap.size A n 1 (aC zs))(M:∀z∈zs,gN z):Calls Tryz.prog 5 #[A n c] v (yV v):=by
 have N:=Ng (size:=1) (T:=22) (E:=3) Tryz.underlying22 (by intro v;kernel_rfl) A n c (min n 300) (min (n:Int) 300) (by omega) (by omega);have r:=J (L.pre (c:=c) (Nat.min_le_left n 300) S);have G:=J (λz (h:z∈zs.take (min n 300))=>M z (List.mem_of_mem_take h));clear L M;obtain⟨y,O⟩:∃y,(if c=0 then A else A.map (·.add 0))=y:=⟨_,rfl⟩
 rw[O]at N r;clear O;go_enter Tryz.func5,Tryz.ntmps5
 go_wp2_with fail
 obtain⟨l,g⟩:∃l,v.alloc (.cells i' gI)=l:=⟨_,rfl⟩
 change Calls _ _ _ (v.alloc (.cells i' gI)) _;rw[g];have i:Below v v l:=by rw[<-g];exact(gD _ _).alloc (ae _) _
 have o:Bk l v.heap.size gI i':=by rw[<-g];exact Bk.new _ _ _
 have H:v.heap.size<l.heap.size:=o.lt;clear g;have s:Rd l l.heap.size y (min n 300) 1 (aC (zs.take (min n 300))):=(r.below i (ae _)).mono i.size;refine(CL l y (min n 300) c (zs.take (min n 300)) s G (by omega)).mono ?_;rintro e d ⟨f,a,Q,rfl,B,I⟩;have U:=J Q;have C:Bk d v.heap.size gI i':=(I.block _ H).trans o;have j:a.length=9:=by obtain⟨V,W,X,c2,Y,c3,Z,c4,A5,c5,A6,c6,A7,c7,A8,c8,rfl,-⟩:=B;rfl
 have m:(a.toArray.all λx=>x.oneCell')=true:=by obtain⟨V,W,X,c2,Y,c3,Z,c4,A5,c5,A6,c6,A7,c7,A8,c8,rfl,-⟩:=B;simp[Value.oneCell']
 have aa:=run_storeVar_row (P:=Tryz.prog) d v.heap.size gI gI i' a.toArray C (by rw[zJ,List.size_toArray,j]) (by simp[i',j]) m;have R:=setRow_heap d v.heap.size i' a.toArray gI (0,0) C;have k:∀b,b≠v.heap.size->(d.setRow v.heap.size a.toArray).heap[b]?=d.heap[b]? :=λb q=>setRow_other d v.heap.size b _ q
 have p:∀b,Tf d b->b≠v.heap.size:=by rintro b ⟨ad,t,D,F⟩ rfl;have:=(dw D C).1;subst this;exact absurd F (by decide)
 have u:kt (d.setRow v.heap.size a.toArray) (Tf (d.setRow v.heap.size a.toArray)) a f:=kt.ok.mono (kt.ok.keep B (λb q=>k b (p b q))) (λb q=>by
  obtain⟨ad,t,D,F⟩:=q;exact⟨ad,t,(k b (p b ⟨ad,t,D,F⟩)).trans D,F⟩)
 have w:Below v v (d.setRow v.heap.size a.toArray):=(i.trans (I.mono (by omega))).trans ⟨rfl,rfl,rfl,by simp,λb q=>k b (by omega)⟩;generalize d.setRow v.heap.size a.toArray=wE at*
 have KH:Hid (yV v (.returned (.agg a.toArray)) wE):=J ⟨f,a,U,rfl,u,w⟩;have K:=J R;have rO:Hid (a.toArray.size=9):=J (by simpa using j);clear R w u p k Q B I C m s o i N j;go_wp2_with fail
 exact bodyPost_ret (Qq K rO) rfl KH
end
abbrev xi:TypeId:=23
structure TD (w W:World)(rb:Nat)(cs:List Value)(g:iu):Prop where
 low:Below w w W
 S:w.heap.size<rb
 box:Bk W w.heap.size gI cs.toArray
 c:Bk W rb gI i'
 D:kt W (Tf W) cs g
def ny (w:World)(e:Ending)(w':World):Prop:=∃(g:iu) (a:List Value),mp g/\e=.returned (.agg a.toArray)/\kt w' (Tf w') a g/\Below w w w'
section
variable {w W W':World} {rb:Nat} {cs cs':List Value} {g g':iu}
theorem Xt (a:∀b,Tf W b->W'.heap[b]?=W.heap[b]?):Same (Tf W) W W'/\∀b,Tf W b->Tf W' b:=
 ⟨a,λb h=>by
  obtain⟨c,t,d,e⟩:=h;exact⟨c,t,(a b ⟨c,t,d,e⟩).trans d,e⟩⟩
theorem kt.C (h:kt W (Tf W) cs g)(a:∀b,Tf W b->W'.heap[b]?=W.heap[b]?):kt W' (Tf W') cs g:=kt.ok.mono (kt.ok.keep h (Xt a).1) (Xt a).2
theorem TD.below (h:TD w W rb cs g)(a:Below W W W'):TD w W' rb cs g:=⟨h.low.trans (a.mono h.low.size),h.S,(a.block _ h.box.lt).trans h.box,(a.block _ h.c.lt).trans h.c,h.D.C λb c=>a.block b (Tf.lt b c)⟩
theorem Tf.asc (a:Bk W w.heap.size gI cs.toArray):∀b,Tf W b->b≠w.heap.size:=by rintro b ⟨c,t,d,e⟩ rfl;have:=(dw d a).1;subst this;exact absurd e (by decide)
theorem TD.field (h:TD w W rb cs g)(j:Nat)(v:Value)(a:kt W (Tf W) (cs.set j v) g'):TD w (W.setCell (w,j) v) rb (cs.set j v) g':=by refine⟨h.low.setCell (ae _) _,h.S,?_,h.c.I (Nat.ne_of_gt h.S) _,a.C λb c=>Below.heap_setCell W (w,j) v b (λe=>Tf.asc h.box b c e)⟩;have:=h.box.set j v;simpa using this
theorem TJ (h:kt W (Tf W) cs g):cs.length=9/\(cs.toArray.all λx=>x.oneCell')=true:=by obtain⟨a,b,c,c2,d,c3,e,i,j,k,l,m,n,o,q,r,rfl,-⟩:=h;exact⟨rfl,by simp[Value.oneCell']⟩
theorem iV {a:Array Value}{b:Nat}{cs:Array Value}(d:W.heap[b]?=some (.cells cs gI (0,0)))(c:cs.size=9)(e:a.getD 4 undef=.pointer (b,0):=by rfl):(results Tryz.f4 a).run Tryz.prog W=.ok (.agg cs) W:=by rw[pM (fn:=Tryz.f4) (p:=4) (ty:=gI) rfl,e];have:=run_loadVar_row (P:=Tryz.prog) W b gI gI cs (0,0) _ d Tryz.underlying32 rfl (by rw[zJ,c]);simp[asAddr,Result.andThen,this]
theorem TD.fin (h:TD w W rb cs g)(k:mp g):((storeVar gI (rb,0) (.agg cs.toArray)).run Tryz.prog W=.ok () (W.setRow rb cs.toArray))/\Bk (W.setRow rb cs.toArray) rb gI cs.toArray/\cs.toArray.size=9/\ny w (.returned (.agg cs.toArray)) (W.setRow rb cs.toArray):=by
 obtain⟨e,a⟩:=TJ h.D;have d:∀b,b≠rb->(W.setRow rb cs.toArray).heap[b]?=W.heap[b]? :=λb j=>setRow_other W _ b _ j
 have i:∀b,Tf W b->b≠rb:=by rintro b ⟨c,t,l,m⟩ rfl;have:=(dw l h.c).1;subst this;exact absurd m (by decide)
 refine⟨?_,setRow_heap W _ i' cs.toArray gI (0,0) h.c,by simpa using e,g,cs,k,rfl,h.D.C λb n=>d b (i b n),h.low.trans ⟨rfl,rfl,rfl,by simp,λb j=>d b (by have:=h.S;omega)⟩⟩;exact run_storeVar_row (P:=Tryz.prog) W rb gI gI i' cs.toArray h.c (by rw[zJ,List.size_toArray,e]) (by simp[i',e]) a
theorem yp {α:Type}{R:Rel α}(i:R.Ok){q s n c:Nat}{e:TypeId}{A:Option Addr}{r:List Value}{t:List α}(h:W.ownsRow s e q (A n c) n r)(j:Fl R q w (Tf w) r t)(a:Below w w W)(he:e∈UN)(k:0<q):Sl R q W (Tf W) A t:=
 Sl.pk h ((j.keep i λb l=>a.block b (Tf.lt b l)).mono i (Tf.low a)) (λg m=>by
  obtain⟨d,o⟩:=iI h g m;exact⟨d,e,o,he⟩) k
theorem sZ {α:Type}{R:Rel α}(i:R.Ok){S:Bs}{u v n c:Nat}{e:TypeId}{A:Option Addr}{z c1:List Value}{C:List α}{y:α}(h:W.ownsRow v e u (A n c) n (z++c1))(k:Fl R u w (Tf w) z C)(d:Below w w W)(l:∀b,Tf w b->S b)(m:R W S c1 y)(o:c1.length=u)(q:∀b a,Bk W b e a->v<=b->S b)(r:0<u):Sl R u W S A (C++[y]):=
 Sl.pk h (((k.keep i λb s=>d.block b (Tf.lt b s)).mono i l).snoc m o) (λg j=>by
  obtain⟨a,t⟩:=iI h g j;exact q g a t (h.lt g j).1) r
theorem jC {α:Type}{R:Rel α}(one:One R){e t r:Nat}(E:mh e t r)(k:0<r){A:Option Addr}{c:Nat}{s:List α}(h:Sl R r w (Tf w) A s)(q:s.length<=100000)(b:Below w w W):
  ∃d i u v,(Builtin.append_ #[t,t] t #[.slice (W,0) 0 0,A s.length c]).run Tryz.prog (W.alloc (.cells #[] e))=.ok (.slice d s.length i) u/\u.ownsRow W.heap.size e r (.slice d s.length i) s.length v/\Fl R r w (Tf w) v s/\Below W W u:=by
 obtain⟨v,l,m,n⟩:=h.yd one k Tf.lt;obtain⟨d,i,u,a,j,o,-⟩:=wP E t (W.alloc (.cells #[] e)) W.heap.size 0 0 (W,0) [] (yQ W W.heap.size e r 0 #[] (ae _) (by simp) (by omega)) w.heap.size A s.length c v ((m.below b (ae _)).alloc b.size _) n (by omega) (by simp);simp only[mU,pG]at a j;refine⟨d,i,u,v,a,j,l,((gD W.heap.size W).alloc (ae _) (.cells #[] e)).grown o (by simp) (λg e=> ?_)⟩;simp[Value.ownBlock]at e;omega
end
def Fp.cl (p:Fp)(f:iu):List Value:=[.int .i64 f.gt,.slice p.A1 f.ga.length p.c1,.slice p.A2 f.f6.length p.c2,.slice p.A3 f.ge.length p.c3,.slice p.A4 f.a'.length p.c4,.slice p.A5 f.gM.length p.c5,.slice p.A6 f.d'.length p.c6,.slice p.A7 f.fY.length p.c7,.slice p.A8 f.gP.length p.c8]
structure TC (w W:World)(rb:Nat)(f:iu)(p:Fp)(G:Nat):Prop where
 low:Below w w W
 S:w.heap.size<rb
 box:Bk W w.heap.size gI (p.cl f).toArray
 c:Bk W rb gI i'
 gA:p.A1=(G,0)
 gG:w.heap.size<=G
 K:∃gc kD,Bk W G jb kD/\(∀(j:Nat) u,gc[j]?=some u->kD[j]?=some u)/\Fl iA 9 w (Tf w) gc f.ga
 lB:∃lc,W.ownsRow w.heap.size ja 3 (.slice p.A3 f.ge.length p.c3) f.ge.length lc/\Fl jn 3 w (Tf w) lc f.ge
 gt:gN f.gt
 f6:Sl kO 2 w (Tf w) p.A2 f.f6
 k:Sl kn 2 w (Tf w) p.A4 f.a'
 gM:Sl kI 4 w (Tf w) p.A5 f.gM
 e:Sl ko 1 w (Tf w) p.A6 f.d'
 fY:Sl kx 1 w (Tf w) p.A7 f.fY
 gP:Sl gS 1 w (Tf w) p.A8 f.gP
section
variable {w W W':World} {rb:Nat} {f:iu} {p:Fp} {G:Nat}
theorem TC.ga (h:TC w W rb f p G):Sl iA 9 W (Tf W) p.A1 f.ga:=by obtain⟨i,j,a,c,d⟩:=h.K;rw[h.gA];exact a.sl c ((d.keep iA.ok λb e=>h.low.block b (Tf.lt b e)).mono iA.ok (Tf.low h.low)) ⟨_,_,a,by decide⟩
theorem TC.looks (h:TC w W rb f p G):Sl jn 3 W (Tf W) p.A3 f.ge:=by obtain⟨c,a,b⟩:=h.lB;exact yp jn.ok a b h.low (by decide) (by decide)
theorem TC.td (h:TC w W rb f p G):TD w W rb (p.cl f) f:=⟨h.low,h.S,h.box,h.c,_,_,_,_,_,_,_,_,_,_,_,_,_,_,_,_,rfl,h.gt,h.ga,h.f6.tf kO.ok h.low,h.looks,h.k.tf kn.ok h.low,h.gM.tf kI.ok h.low,h.e.tf ko.ok h.low,h.fY.tf kx.ok h.low,h.gP.tf gS.ok h.low⟩
theorem TC.below (h:TC w W rb f p G)(a:Below W W W'):TC w W' rb f p G:=by obtain⟨c,d,b,e,i⟩:=h.K;obtain⟨j,k,l⟩:=h.lB;exact⟨h.low.trans (a.mono h.low.size),h.S,(a.block _ h.box.lt).trans h.box,(a.block _ h.c.lt).trans h.c,h.gA,h.gG,⟨c,d,(a.block _ b.lt).trans b,e,i⟩,⟨j,gj k a,l⟩,h.gt,h.f6,h.k,h.gM,h.e,h.fY,h.gP⟩
theorem Bk.ne {a b:Nat}{t d:TypeId}{cs cs':Array Value}(h:Bk W a t cs)(k:Bk W b d cs')(c:t≠d):a≠b:=λe=>by
 subst e;exact c (dw h k).1
theorem TC.z (h:TC w W rb f p G){i:Nat}(hi:i<f.ga.length):∃x L c3 I c4 K c5 b e c k d l,Hid (f.ga[i]?=some x)/\W.cell? (G,i*9+4)=some (.slice I x.gO.length c4)/\W.cell? (G,i*9+5)=some (.slice K x.gi.length c5)/\W.cell? (G,i*9+6)=some (.slice b x.gh.length e)/\W.cell? (G,i*9+7)=some (.slice c x.gx.length k)/\W.cell? (G,i*9+8)=some (.slice d x.gR.length l)/\
  iA w (Tf w) [.string ⟨x.gn.toArray⟩,.int .i64 x.gL,.bool x.i6,.slice L x.gk.length c3,.slice I x.gO.length c4,.slice K x.gi.length c5,.slice b x.gh.length e,.slice c x.gx.length k,.slice d x.gR.length l] x/\Sl gS 1 w (Tf w) I x.gO/\Sl lS 3 w (Tf w) K x.gi/\Sl mc 4 w (Tf w) b x.gh/\Sl md 4 w (Tf w) c x.gx/\Sl ky 2 w (Tf w) d x.gR:=by
 obtain⟨C,D,o,q,r⟩:=h.K;obtain⟨cs,n,E,s⟩:=r.2 i _ (jO hi);have m:=n;obtain⟨L,c3,I,c4,K,c5,b,e,c,k,d,l,rfl,F,H,t,v,y,z,A⟩:=n;have a:∀(j:Nat) u,_=some u->W.cell? ⟨G,i*9+j,none⟩=some u:=λj u B=>(o.cell _).trans (q _ _ (s j u B))
 exact⟨_,L,c3,I,c4,K,c5,b,e,c,k,d,l,jO hi,a 4 _ rfl,a 5 _ rfl,a 6 _ rfl,a 7 _ rfl,a 8 _ rfl,m,t,v,y,z,A⟩
theorem TC.look (h:TC w W rb f p G){i:Nat}(hi:i<f.ge.length):∃L x t c2,p.A3=some ⟨L,0,none⟩/\Hid (f.ge[i]?=some x)/\W.cell? ⟨L,i*3+2,none⟩=some (.slice t x.gC.length c2)/\W.cell? ⟨L,i*3,none⟩=some (.int .i64 x.gd)/\Sl lj 6 w (Tf w) t x.gC/\L<W/\(∀j,W.frozen? ⟨L,j,none⟩=false)/\w.heap.size<=L/\∃a,Bk W L ja a:=by obtain⟨q,k,l⟩:=h.lB;obtain⟨L,a,e,m,b,c⟩:=NZ k (by omega) (by decide);obtain⟨cs,n,r,d⟩:=l.2 i _ (jO hi);obtain⟨t,c2,rfl,s,o⟩:=n;exact⟨L,_,t,c2,e,jO hi,(b.cell _).trans (c _ _ (d 2 _ rfl)),(b.cell _).trans (c _ _ (d 0 _ rfl)),o,b.lt,b.frozen,m,a,b⟩
theorem TC.sC (h:TC w W rb f p G){i:Nat}{x r:hU}(d:f.ga[i]?=some x){k:Nat}(s:k<9)(v:Value)(t:∀cs,iA W (λb=>Tf W b/\b≠G) cs x->iA W (λb=>Tf W b/\b≠G) (cs.set k v) r):TD w (W.setCell (G,i*9+k) v) rb (p.cl f) {f with ga:=f.ga.set i r} :=by
 obtain⟨I,K,l,u,y⟩:=h.K;have z:=h.gG;have A:∀b,Tf w b->Tf W b/\b≠G:=λb d=>⟨Tf.low h.low b d,by have:=Tf.lt b d;omega⟩
 have B:=Sl.put (w:=W) iA.ok l u ((y.keep iA.ok λb d=>h.low.block b (Tf.lt b d)).mono iA.ok A) (λe=>e.2 rfl) d s v (λcs a _=>t cs a);have j:Below w w (W.setCell (G,i*9+k) v):=h.low.setCell (by simpa using z) _;have m:=l.set (i*9+k) v;have C:∀b,Tf W b->Tf (W.setCell (G,i*9+k) v) b:=λb d=>by
  by_cases e:b=G
  .subst e;exact⟨_,_,m,by decide⟩
  obtain⟨c,D,n,o⟩:=d;exact⟨c,D,(Below.heap_setCell W (G,i*9+k) v b e).trans n,o⟩
 obtain⟨E,F,H⟩:=h.lB;have q:(W.setCell (G,i*9+k) v).ownsRow w.heap.size ja 3 (.slice p.A3 f.ge.length p.c3) f.ge.length E:=(Sp.set l (ae G) (i*9+k) v).own F (by decide);refine⟨j,h.S,h.box.I (Bk.ne h.box l (by decide)) _,h.c.I (Bk.ne h.c l (by decide)) _,p.A1,p.c1,p.A2,p.c2,p.A3,p.c3,p.A4,p.c4,p.A5,p.c5,p.A6,p.c6,p.A7,p.c7,p.A8,p.c8,by simp[Fp.cl],h.gt,?_,h.f6.tf kO.ok j,yp jn.ok q H j (by decide) (by decide),h.k.tf kn.ok j,h.gM.tf kI.ok j,h.e.tf ko.ok j,h.fY.tf kx.ok j,h.gP.tf gS.ok j⟩;rw[h.gA];exact B.mono iA.ok λb d=>by
  rcases d with⟨d,-⟩|rfl
  .exact C b d
  exact⟨_,_,m,by decide⟩
theorem TC.nl (h:TC w W rb f p G){i L:Nat}(r:p.A3=(L,0)){x s:gH}(d:f.ge[i]?=some x){k:Nat}(y:k<3)(v:Value)(z:∀cs,jn W (λb=>Tf W b/\b≠L) cs x->jn W (λb=>Tf W b/\b≠L) (cs.set k v) s):TD w (W.setCell (L,i*3+k) v) rb (p.cl f) {f with ge:=f.ge.set i s} :=by
 obtain⟨N,A,B⟩:=h.lB;obtain⟨O,C,e,D,l,E⟩:=NZ A (by have:=(ll.1 d).1;omega) (by decide);rw[r]at e;cases e;have F:∀b,Tf w b->Tf W b/\b≠L:=λb d=>⟨Tf.low h.low b d,by have:=Tf.lt b d;omega⟩
 have H:=Sl.put (w:=W) jn.ok l E ((B.keep jn.ok λb d=>h.low.block b (Tf.lt b d)).mono jn.ok F) (λe=>e.2 rfl) d y v (λcs a _=>z cs a);have j:Below w w (W.setCell (L,i*3+k) v):=h.low.setCell (by simpa using D) _;have m:=l.set (i*3+k) v;have I:∀b,Tf W b->Tf (W.setCell (L,i*3+k) v) b:=λb d=>by
  by_cases e:b=L
  .subst e;exact⟨_,_,m,by decide⟩
  obtain⟨c,R,n,o⟩:=d;exact⟨c,R,(Below.heap_setCell W (L,i*3+k) v b e).trans n,o⟩
 obtain⟨P,Q,t,K,M⟩:=h.K;have q:G≠L:=λe=>by
  subst e;exact absurd (dw t l).1 (by decide)
 have u:=t.I (p:=(L,i*3+k)) q v;refine⟨j,h.S,h.box.I (Bk.ne h.box l (by decide)) _,h.c.I (Bk.ne h.c l (by decide)) _,p.A1,p.c1,p.A2,p.c2,p.A3,p.c3,p.A4,p.c4,p.A5,p.c5,p.A6,p.c6,p.A7,p.c7,p.A8,p.c8,by simp[Fp.cl],h.gt,?_,h.f6.tf kO.ok j,?_,h.k.tf kn.ok j,h.gM.tf kI.ok j,h.e.tf ko.ok j,h.fY.tf kx.ok j,h.gP.tf gS.ok j⟩
 .rw[h.gA];exact u.sl K ((M.keep iA.ok λb d=>j.block b (Tf.lt b d)).mono iA.ok (Tf.low j)) ⟨_,_,u,by decide⟩
 rw[r];exact H.mono jn.ok λb d=>by
  rcases d with⟨d,-⟩|rfl
  .exact I b d
  exact⟨_,_,m,by decide⟩
theorem TC.sI (h:TC w W rb f p G){i k:Nat}(hi:i<f.ga.length)(j:k<9):(∃v,W.cell? (G,i*9+k)=some v)/\W.frozen? (G,i*9+k)=false:=by
 obtain⟨l,m,a,b,c⟩:=h.K;obtain⟨cs,n,o,d⟩:=c.2 i _ (jO hi);obtain⟨u,e⟩:∃u,cs[k]?=some u:=⟨_,jO (by omega)⟩
 exact⟨⟨u,(a.cell _).trans (b _ _ (d k u e))⟩,a.frozen _⟩
theorem TC.more {α:Type}{R:Rel α}(l:R.Ok){z C n c:Nat}{e t:TypeId}{A:Option Addr}{D c1:List Value}{E:List α}{y:α}{g:Nat}{h:Array Value}(a:Below w w W)(m:Bk W g t h)(v:w.heap.size<=g)(o:W.ownsRow C e z (A n c) n (D++c1))(q:Fl R z w (Tf w) D E)(r:R W (λb=>Tf W b/\b≠g) c1 y)(s:c1.length=z)(he:e∈UN)(i:e≠t)(u:0<z):Sl R z W (λb=>Tf W b/\b≠g) A (E++[y]):=sZ l o q a (λb j=>⟨Tf.low a b j,by have:=Tf.lt b j;omega⟩) r s (λb d k _=>⟨⟨d,e,k,he⟩,Bk.ne k m i⟩) u
end
section
variable {W:World} {S:Bs} {cs:List Value} {x:hU}
theorem iA.Zs (h:iA W S cs x)(s:B):iA W S (cs.set 0 (.string s)) {x with gn:=s} :=by obtain⟨a,c3,b,c,d,e,i,j,k,l,m,n,rfl,o,q,r,t,u,v,y⟩:=h;exact⟨a,c3,b,c,d,e,i,j,k,l,m,n,rfl,o,q,r,t,u,v,y⟩
theorem iA.Z' (h:iA W S cs x)(n:Int)(a:gN n):iA W S (cs.set 1 (.int .i64 n)) {x with gL:=n} :=by obtain⟨b,c3,c,d,e,i,j,k,l,m,o,q,rfl,z,r,s,t,u,v,y⟩:=h;exact⟨b,c3,c,d,e,i,j,k,l,m,o,q,rfl,a,r,s,t,u,v,y⟩
theorem iA.Yp (h:iA W S cs x){A:Option Addr}{c n:Nat}{l:List Int}(a:Sl gS 1 W S A l)(b:l.length=n):iA W S (cs.set 4 (A n c)) {x with gO:=l} :=by subst b;obtain⟨d,c3,B,C,e,i,j,k,m,o,q,r,rfl,s,t,D,u,v,y,z⟩:=h;exact⟨d,c3,A,c,e,i,j,k,m,o,q,r,rfl,s,t,a,u,v,y,z⟩
theorem iA.XS (h:iA W S cs x){A:Option Addr}{c n:Nat}{l:List Part}(a:Sl lS 3 W S A l)(b:l.length=n):iA W S (cs.set 5 (A n c)) {x with gi:=l} :=by subst b;obtain⟨d,c3,e,i,B,C,j,k,m,o,q,r,rfl,s,t,u,D,v,y,z⟩:=h;exact⟨d,c3,e,i,A,c,j,k,m,o,q,r,rfl,s,t,u,a,v,y,z⟩
theorem iA.V3 (h:iA W S cs x){A:Option Addr}{c n:Nat}{l:List ml}(a:Sl mc 4 W S A l)(b:l.length=n):iA W S (cs.set 6 (A n c)) {x with gh:=l} :=by subst b;obtain⟨d,c3,e,i,j,k,B,C,m,o,q,r,rfl,s,t,u,v,D,y,z⟩:=h;exact⟨d,c3,e,i,j,k,A,c,m,o,q,r,rfl,s,t,u,v,a,y,z⟩
theorem iA.V4 (h:iA W S cs x){A:Option Addr}{c n:Nat}{l:List Delta}(a:Sl md 4 W S A l)(b:l.length=n):iA W S (cs.set 7 (A n c)) {x with gx:=l} :=by subst b;obtain⟨d,c3,e,i,j,k,m,o,B,C,q,r,rfl,s,t,u,v,y,D,z⟩:=h;exact⟨d,c3,e,i,j,k,m,o,A,c,q,r,rfl,s,t,u,v,y,a,z⟩
theorem iA.Ys (h:iA W S cs x){A:Option Addr}{c n:Nat}{l:List Ins}(a:Sl ky 2 W S A l)(b:l.length=n):iA W S (cs.set 8 (A n c)) {x with gR:=l} :=by subst b;obtain⟨d,c3,e,i,j,k,m,o,q,r,B,C,rfl,s,t,u,v,y,z,D⟩:=h;exact⟨d,c3,e,i,j,k,m,o,q,r,A,c,rfl,s,t,u,v,y,z,a⟩
theorem jn.Y' {x:gH}(h:jn W S cs x)(n:Int)(a:gN n):jn W S (cs.set 0 (.int .i64 n)) {x with gd:=n} :=by obtain⟨b,c2,rfl,d,c⟩:=h;exact⟨b,c2,rfl,a,c⟩
theorem jn.Bu {x:gH}(h:jn W S cs x){A:Option Addr}{c n:Nat}{l:List k'}(a:Sl lj 6 W S A l)(b:l.length=n):jn W S (cs.set 2 (A n c)) {x with gC:=l} :=by subst b;obtain⟨e,c2,rfl,d,i⟩:=h;exact⟨A,c,rfl,d,a⟩
end
section
variable {W:World} {S:Bs} {g:Nat}
theorem Cb {cs:Array Value}(c:Bk W g aK cs)(l:List Int)(a:cs.toList=aC l)(d:∀x∈l,gN x)(e:S g):Sl gS 1 W S (g,0) l:=c.sl (cells:=aC l) (λj u b=>by rw[<-a]at b;simpa using b) (jW _ _ l d) e
theorem Mc {α:Type}{R:Rel α}{size:Nat}{t:TypeId}{cs:Array Value}(a:Bk W g t cs)(x:α)(b:R W S cs.toList x)(c:cs.size=size)(d:S g):Sl R size W S (g,0) [x]:=a.sl (cells:=cs.toList) (λj u e=>by simpa using e) (Fl.one b (by simpa using c)) d
theorem R4 {α:Type}{R:Rel α}{t:TypeId}{a b:Value}(c:Bk W g t #[a,b])(x y:α)(d:R W S [a] x)(e:R W S [b] y)(h:S g):Sl R 1 W S (g,0) [x,y]:=c.sl (cells:=[a]++[b]) (λj u i=>by simpa using i) ((Fl.one d rfl).append (Fl.one e rfl)) h
end
def ki (n:Nat):Prop:=n<=100000
structure xt (g:hU):Prop where
 gn:ki g.gn.length
 h:ki g.gk.length
 gO:ki g.gO.length
 gi:ki g.gi.length
 M:ki g.gh.length
 o:ki g.gx.length
 gR:ki g.gR.length
structure pD (f:iu):Prop where
 T:mp f
 ga:ki f.ga.length
 f6:ki f.f6.length
 ge:ki f.ge.length
 k:ki f.a'.length
 gM:ki f.gM.length
 e:ki f.d'.length
 fY:ki f.fY.length
 gP:ki f.gP.length
 z:∀g∈f.ga,xt g
 look:∀l∈f.ge,ki l.gC.length
theorem ki.T {n:Nat}(h:ki n):ip n:=by unfold ki at h;unfold ip;omega
theorem ki.snoc {α:Type}{l:List α}(h:ki l.length)(y:α):ip (l++[y]).length:=by unfold ki at h;unfold ip;simp;omega
theorem xt.sw {g:hU}(h:xt g):tT g:=⟨h.gn.T,h.h.T,h.gO.T,h.gi.T,h.M.T,h.o.T,h.gR.T⟩
theorem mp.sE (h:mp u)(i:Nat){x:hU}(b:tT x):mp {u with ga:=u.ga.set i x} :=
 {h with
  ga:=by simpa using h.ga
  z:=λg a=>by
   rcases List.mem_or_eq_of_mem_set a with a|rfl
   .exact h.z g a
   exact b}
theorem mp.xv (h:mp u)(i:Nat){x:gH}(b:vy x):mp {u with ge:=u.ge.set i x} :=
 {h with
  ge:=by simpa using h.ge
  look:=λg a=>by
   rcases List.mem_or_eq_of_mem_set a with a|rfl
   .exact h.look g a
   exact b}
theorem wL {f:World}{W:TypeId}{n:Nat}{v:Value}(b:Below a a h)(c:h.ownsRow a.heap.size W e v n i)(d:h.grownBy f v.ownBlock):Below a a f:=b.grown d b.size (λg W=>(c.lt g W).1)
theorem Sb (t:TypeId)(h:(Tryz.prog.info? t).map (·.size)=some 1)(s:ByteArray)(a:Addr)(w:World):(storeVar t a (.string s)).run Tryz.prog w=(store a (.string s)).run Tryz.prog w:=by
 have b:=OA t h
 go_simp
theorem nm7 (k:Nat)(h:k<7):∃s:B,(#[.string ⟨#[]⟩,.string ⟨#[97,32,98]⟩,.string ⟨#[46,110,111,116,100,101,102]⟩,.string ⟨#[49,97]⟩,.string ⟨#[103,97]⟩,.string ⟨#[111,107,45,110,97,109,101]⟩,.string ⟨#[97,97,97,97,97,97,97,97,97,97,97,97,97,97,97,97,97]⟩]:Array Value)[k]?=some (.string s)/\s.length<=17:=by
 have:k=0\/k=1\/k=2\/k=3\/k=4\/k=5\/k=6:=by omega
 rcases this with rfl|rfl|rfl|rfl|rfl|rfl|rfl<;>exact⟨_,rfl,by decide⟩
theorem kW (f:iu)(u A2 w A4 A5 A B C:Option Addr)(c1 c2 c3 c4 c5 H I j:Nat)(i0:gN f.gt)(s1:Sl iA 9 v (Tf v) u f.ga)(s2:Sl kO 2 v (Tf v) A2 f.f6)(s3:Sl jn 3 v (Tf v) w f.ge)(s4:Sl kn 2 v (Tf v) A4 f.a')(s5:Sl kI 4 v (Tf v) A5 f.gM)(s6:Sl ko 1 v (Tf v) A f.d')(s7:Sl kx 1 v (Tf v) B f.fY)(s8:Sl gS 1 v (Tf v) C f.gP)(hS:pD f)(h0:0<f.ga.length)(K S T:Int):
  ∃(i y e k a W1:World) (G b n:Nat) (o:Option Addr),v.alloc (.cells #[.int .i64 f.gt,.slice u f.ga.length c1,.slice A2 f.f6.length c2,.slice w f.ge.length c3,.slice A4 f.a'.length c4,.slice A5 f.gM.length c5,.slice A f.d'.length H,.slice B f.fY.length I,.slice C f.gP.length j] gI)=i/\i.alloc (.cells #[.int .i64 K,.int .i64 S,.int .i64 T] xi)=y/\y.alloc (.cells #[.int .i64 0,.slice none 0 0,.slice none 0 0,.slice none 0 0,.slice none 0 0,.slice none 0 0,.slice none 0 0,.slice none 0 0,.slice none 0 0] gI)=e/\(Builtin.append_ #[24,24] 24 #[.slice (some ⟨e.heap.size,0,none⟩) 0 0,.slice u f.ga.length c1]).run Tryz.prog (e.alloc (.cells #[] jb))=.ok (.slice (some ⟨G,0,none⟩) f.ga.length b) k/\(Builtin.append_ #[26,26] 26 #[.slice (some ⟨k.heap.size,0,none⟩) 0 0,.slice w f.ge.length c3]).run Tryz.prog (k.alloc (.cells #[] ja))=.ok (.slice o f.ge.length n) a/\(e.alloc (.cells #[] jb)).cell? ⟨v.heap.size,1,none⟩=some (.slice u f.ga.length c1)/\(k.alloc (.cells #[] ja)).cell? ⟨v.heap.size,3,none⟩=some (.slice w f.ge.length c3)/\a.frozen? ⟨v.heap.size,1,none⟩=false/\a.cell? ⟨v.heap.size,1,none⟩=some (.slice u f.ga.length c1)/\(a.setCell ⟨v.heap.size,1,none⟩ (.slice (some ⟨G,0,none⟩) f.ga.length b)).frozen? ⟨v.heap.size,3,none⟩=false/\(a.setCell ⟨v.heap.size,1,none⟩ (.slice (some ⟨G,0,none⟩) f.ga.length b)).cell? ⟨v.heap.size,3,none⟩=some (.slice w f.ge.length c3)/\e.cell? ⟨i.heap.size,2,none⟩=some (.int .i64 T)/\a.cell? ⟨i.heap.size,1,none⟩=some (.int .i64 S)/\W1.cell? ⟨i.heap.size,0,none⟩=some (.int .i64 K)/\(a.setCell ⟨v.heap.size,1,none⟩ (.slice (some ⟨G,0,none⟩) f.ga.length b)).setCell ⟨v.heap.size,3,none⟩ (.slice o f.ge.length n)=W1/\Hid (TC v W1 y.heap.size f ⟨some ⟨G,0,none⟩,b,A2,c2,o,n,A4,c4,A5,c5,A,H,B,I,C,j⟩ G):=by
 obtain⟨i,U,r,V⟩:=aO v gI #[.int .i64 f.gt,.slice u f.ga.length c1,.slice A2 f.f6.length c2,.slice w f.ge.length c3,.slice A4 f.a'.length c4,.slice A5 f.gM.length c5,.slice A f.d'.length H,.slice B f.fY.length I,.slice C f.gP.length j];obtain⟨y,xN,s,X⟩:=aO i xi #[.int .i64 K,.int .i64 S,.int .i64 T];obtain⟨e,oC,t,L⟩:=aO y gI #[.int .i64 0,.slice none 0 0,.slice none 0 0,.slice none 0 0,.slice none 0 0,.slice none 0 0,.slice none 0 0,.slice none 0 0,.slice none 0 0];have z:Below v.heap.size v e:=(r.trans (s.mono r.size)).trans (t.mono (r.trans (s.mono r.size)).size);have q:Bk e v.heap.size gI #[.int .i64 f.gt,.slice u f.ga.length c1,.slice A2 f.f6.length c2,.slice w f.ge.length c3,.slice A4 f.a'.length c4,.slice A5 f.gM.length c5,.slice A f.d'.length H,.slice B f.fY.length I,.slice C f.gP.length j]:=(V.l s).l t;have Y:Bk e i.heap.size xi #[.int .i64 K,.int .i64 S,.int .i64 T]:=X.l t;have D:v.heap.size<y.heap.size:=mz V.lt s.size;have b1:=hS.ga;have b2:=hS.ge;unfold ki at b1 b2;obtain⟨Ag,b,k,gc,E,Z,aa,l⟩:=jC (W:=e) One.z Ht (by decide) s1 (c:=c1) b1 z;obtain⟨o,n,a,lc,F,ab,ac,M⟩:=jC (W:=k) One.look LQ (by decide) s3 (c:=c3) b2 (z.trans (l.mono z.size));have m:Below e.heap.size e a:=l.trans (M.mono l.size);have N:Below v.heap.size v a:=z.trans (m.mono z.size);obtain⟨G,kD,rfl,hG,ad,ak⟩:=NZ Z (by exact h0) (by decide);have al:Bk a G jb kD:=ad.l M;have xR:(e.alloc (.cells #[] jb)).cell? ⟨v.heap.size,1,none⟩=some (.slice u f.ga.length c1):=q.at ((gD _ _).alloc (ae _) _) 1 rfl;have xU:(k.alloc (.cells #[] ja)).cell? ⟨v.heap.size,3,none⟩=some (.slice w f.ge.length c3):=(q.l l).at ((gD _ _).alloc (ae _) _) 3 rfl;have xJ:=(q.l m).frozen 1;have xH:a.cell? ⟨v.heap.size,1,none⟩=some (.slice u f.ga.length c1):=q.at m 1 rfl;have xI:(a.setCell ⟨v.heap.size,1,none⟩ (.slice (some ⟨G,0,none⟩) f.ga.length b)).cell? ⟨v.heap.size,3,none⟩=some (.slice w f.ge.length c3):=(((q.l m).set 1 (.slice (some ⟨G,0,none⟩) f.ga.length b)).cell 3).trans rfl;have ao:(a.setCell ⟨v.heap.size,1,none⟩ (.slice (some ⟨G,0,none⟩) f.ga.length b)).frozen? ⟨v.heap.size,3,none⟩=_:=((q.l m).set 1 (.slice (some ⟨G,0,none⟩) f.ga.length b)).frozen 3;have j2:=Y.cell 2;have j1:=Y.at m 1 rfl;obtain⟨W1,d⟩:∃x,(a.setCell ⟨v.heap.size,1,none⟩ (.slice (some ⟨G,0,none⟩) f.ga.length b)).setCell ⟨v.heap.size,3,none⟩ (.slice o f.ge.length n)=x:=⟨_,rfl⟩
 have j0:W1.cell? ⟨i.heap.size,0,none⟩=some (.int .i64 K):=by
  have O:i.heap.size≠v.heap.size:=by have:=V.lt;omega
  rw[<-d];exact(((Y.l m).I (p:=⟨v.heap.size,1,none⟩) O _).I (p:=⟨v.heap.size,3,none⟩) O _).cell 0
 have HT:Hid (TC v W1 y.heap.size f ⟨some ⟨G,0,none⟩,b,A2,c2,o,n,A4,c4,A5,c5,A,H,B,I,C,j⟩ G):=by
  have P:G≠v.heap.size:=by have:=z.size;have:=q.lt;omega
  have zr:=L.lt;have Q:=((q.l m).set 1 (.slice (some ⟨G,0,none⟩) f.ga.length b)).set 3 (.slice o f.ge.length n)
  have ap:(a.setCell ⟨v.heap.size,1,none⟩ (.slice (some ⟨G,0,none⟩) f.ga.length b)).ownsRow k.heap.size ja 3 (.slice o f.ge.length n) f.ge.length lc:=(Sp.set (q.l m) (ae _) 1 _).own ab (by decide);have R:W1.ownsRow k.heap.size ja 3 (.slice o f.ge.length n) f.ge.length lc:=by rw[<-d];exact(Sp.set ((q.l m).set 1 _) (ae _) 3 _).own ap (by decide)
  refine⟨?_,D,?_,?_,rfl,by omega,⟨gc,kD,?_,ak,aa⟩,⟨lc,⟨R.1,?_⟩,ac⟩,i0,s2,s4,s5,s6,s7,s8⟩
  .rw[<-d];exact(N.setCell (ae _) _).setCell (ae _) _
  .rw[<-d];simpa [Fp.cl]using Q
  .rw[<-d];exact(((L.l m).I (p:=⟨v.heap.size,1,none⟩) (Nat.ne_of_gt D) _).I (p:=⟨v.heap.size,3,none⟩) (Nat.ne_of_gt D) _)
  .rw[<-d];exact(al.I (p:=⟨v.heap.size,1,none⟩) P _).I (p:=⟨v.heap.size,3,none⟩) P _
  have av:v.heap.size<=k.heap.size:=(z.trans (l.mono z.size)).size;rcases R.2 with h|⟨g,aq,ar,h1,h2,h3⟩
  .exact .inl h
  exact .inr ⟨g,aq,ar,h1,by omega,h3⟩
 exact⟨i,y,e,k,a,W1,G,b,n,o,U,xN,oC,E,F,xR,xU,xJ,xH,ao,xI,j2,j1,j0,d,HT⟩
section
attribute [-go_sem] Builtin.append_
attribute [-go_sem] storeVar
theorem Gz (f:iu)(A1 A2 A3 A4 A5 Q R S:Option Addr)(c1 c2 c3 c4 c5 c6 c7 c8:Nat)(T:gN f.gt)(s1:Sl iA 9 v (Tf v) A1 f.ga)(s2:Sl kO 2 v (Tf v) A2 f.f6)(s3:Sl jn 3 v (Tf v) A3 f.ge)(s4:Sl kn 2 v (Tf v) A4 f.a')(s5:Sl kI 4 v (Tf v) A5 f.gM)(s6:Sl ko 1 v (Tf v) Q f.d')(s7:Sl kx 1 v (Tf v) R f.fY)(s8:Sl gS 1 v (Tf v) S f.gP)(s:pD f)(U:0<f.ga.length)(c t V:Int)(hq:(c.tmod 16+16).tmod 16=0\/(c.tmod 16+16).tmod 16=1\/(c.tmod 16+16).tmod 16=2):Calls Tryz.prog 4 #[.agg #[f.gt,A1 f.ga.length c1,A2 f.f6.length c2,A3 f.ge.length c3,A4 f.a'.length c4,A5 f.gM.length c5,Q f.d'.length c6,R f.fY.length c7,S f.gP.length c8],.agg #[c,t,V]] v (ny v):=by
 obtain⟨Wf,Wq,Wr,Wg,Wl,b,G,cg,cl,Al,W,xN,oC,j,l,xR,xU,xJ,xH,X,xI,j2,j1,j0,u,a⟩:=kW v f A1 A2 A3 A4 A5 Q R S c1 c2 c3 c4 c5 c6 c7 c8 T s1 s2 s3 s4 s5 s6 s7 s8 s U c t V;have b1:=s.ga;have b2:=s.ge;unfold ki at b1 b2;have y:=J s;have vg:=bG 24 (by kernel_rfl);have vl:=bG 26 (by kernel_rfl);obtain⟨r2,z,ao,al⟩:=bJ V 100 (by omega);obtain⟨d,Y,uY⟩:=aY (r2+(100:Nat)) 100 (by omega) (by omega);obtain⟨r1,Z,ap,A⟩:=bJ t f.ga.length U;obtain⟨i,aa,n⟩:=aY (r1+f.ga.length) f.ga.length U (by omega);have hK:0<f.ge.length->∃(r:Int) (k:Nat),t.tmod (f.ge.length:Int)=r/\ -(f.ge.length:Int)<r/\r<f.ge.length/\(r+f.ge.length).tmod (f.ge.length:Int)=(k:Int)/\k<f.ge.length:=λB=>by
  obtain⟨r,ha,hb,hc⟩:=bJ t f.ge.length B;obtain⟨k,hd,he⟩:=aY (r+f.ge.length) f.ge.length B (by omega);exact⟨r,k,ha,hb,hc,hd,he⟩
 have HK:=J hK;have bn:decide ((0:Int)<(f.ga.length:Int))=true:=decide_eq_true (by omega);have lh:((100:Nat):Int)=100:=rfl;rw[lh]at z Y;clear s hK lh T s1 s2 s3 s4 s5 s6 s7 s8;obtain⟨mm,o⟩:∃m:Int,(c.tmod 16+16).tmod 16=m:=⟨_,rfl⟩
 rw[o]at hq;obtain⟨r0,ab⟩:∃r:Int,c.tmod 16=r/\ -16<r/\r<16:=bJ c 16 (by omega);obtain⟨C,A,DD⟩:=ab;rw[C]at o;go_enter Tryz.func4,Tryz.ntmps4
 go_upto_if 39 with fail
 try clear W
 try clear xN
 try clear oC
 clear xR xU j l j2 z aa Z bn;go_cut [9]from 40 to 50 (λw wx=>∃k:Nat,w=.int .i64 k/\(0<f.ge.length->k<f.ge.length)/\Wl=wx)
 case first=>
  by_cases B:0<f.ge.length
  .obtain⟨r,k,e1,e2,e3,e4,N⟩:=HK B;go_wp2_with fail
   go_meet
   exact⟨k,rfl,λ_=>N,rfl⟩
  go_wp2_with fail
  go_meet
  exact⟨0,rfl,λh=>absurd h B,rfl⟩
 case rest=>
 obtain⟨k,rfl,aq,rfl⟩:=hcut;clear HK j1
 go_upto_block 0 with fail
 try rw[u]
 clear vg vl u xJ X xH xI j0 C o;go_cut []from 60 to 374 (λwx=>∃(g:iu) (O:List Value),TD v wx Wq.heap.size O g/\mp g)
 case first=>
  obtain⟨x,D3,d3,D4,d4,D5,d5,D6,d6,D7,d7,D8,d8,hx,l4,l5,l6,l7,l8,ac,t4,t5,t6,t7,t8⟩:=a.z n;have HX:=J (y.z x (kj hx));have EC:G<b.heap.size:=by obtain⟨gc,kD,h1,-⟩:=a.K;exact h1.lt
  clear ac t4 t5 t6 t7 t8;rcases hq with rfl|rfl|rfl
  .have D:=a.td.field 0 (.int .i64 ((d:Int)*50)) (g':= {f with gt:=(d:Int)*50}) (by
    obtain⟨B1,d1,B2,d2,B3,e3,B4,e4,B5,N,B6,e6,B7,e7,B8,e8,e,T,r⟩:=a.td.D;rw[e];exact⟨B1,d1,B2,d2,B3,e3,B4,e4,B5,N,B6,e6,B7,e7,B8,e8,rfl,⟨by show _<=(d:Int)*50;omega,by show(d:Int)*50<=_;omega⟩,r⟩)
   have E:=J D;have F:Hid (mp {f with gt:=(d:Int)*50}):=J {y.T with};have p:b.frozen? (v,0)=_:=a.box.frozen 0;have zI:b.cell? (v,0)=some (.int .i64 f.gt):=a.box.cell 0;have sv:=MO 3 (by kernel_rfl);clear D;go_wp2_with fail
   go_meet
   exact⟨_,_,E,F⟩
  .obtain⟨y7,ad,ak⟩:=aY (d:Int) 7 (by omega) (by omega);rw[show((7:Nat):Int)=7 from rfl]at ad;obtain⟨H,I,ar⟩:=nm7 y7 ak;have av:(b.alloc (.cells #[.string ⟨#[]⟩,.string ⟨#[97,32,98]⟩,.string ⟨#[46,110,111,116,100,101,102]⟩,.string ⟨#[49,97]⟩,.string ⟨#[103,97]⟩,.string ⟨#[111,107,45,110,97,109,101]⟩,.string ⟨#[97,97,97,97,97,97,97,97,97,97,97,97,97,97,97,97,97]⟩] 9)).cell? (b,y7)=some (.string H):=((Bk.new b _ _).cell y7).trans I;have ay:=(gD b.heap.size b).alloc (ae _) (.cells #[.string ⟨#[]⟩,.string ⟨#[97,32,98]⟩,.string ⟨#[46,110,111,116,100,101,102]⟩,.string ⟨#[49,97]⟩,.string ⟨#[103,97]⟩,.string ⟨#[111,107,45,110,97,109,101]⟩,.string ⟨#[97,97,97,97,97,97,97,97,97,97,97,97,97,97,97,97,97]⟩] 9);obtain⟨⟨vo,zI⟩,p⟩:=(a.below ay).sI (k:=0) n (by decide);simp only[Nat.add_zero]at zI p;have E:=J ((a.sC hx (k:=0) (by decide) (.string H) (λO q=>q.Zs H)).below ((gD _ _).alloc (ae _) (.cells #[.string ⟨#[]⟩,.string ⟨#[97,32,98]⟩,.string ⟨#[46,110,111,116,100,101,102]⟩,.string ⟨#[49,97]⟩,.string ⟨#[103,97]⟩,.string ⟨#[111,107,45,110,97,109,101]⟩,.string ⟨#[97,97,97,97,97,97,97,97,97,97,97,97,97,97,97,97,97]⟩] 9)));have F:=J (y.T.sE i (x:= {x with gn:=H}) {HX.sw with gn:=by show H.length<=_;omega});have sv:=Sb 9 (by kernel_rfl);clear ay I l4 l5 l6 l7 l8;go_wp2_with fail
   go_meet
   exact⟨_,_,E,F⟩
  obtain⟨⟨vo,zI⟩,p⟩:=a.sI (k:=1) n (by decide);have E:=J (a.sC hx (k:=1) (by decide) (.int .i64 (((d:Int) - 10)*300)) (λO q=>q.Z' _ ⟨by omega,by omega⟩));have sv:=MO 3 (by kernel_rfl);have F:=J (y.T.sE i (x:= {x with gL:=((d:Int) - 10)*300}) {HX.sw with});clear l4 l5 l6 l7 l8;go_wp2_with fail
  go_meet
  exact⟨_,_,E,F⟩
 case rest=>
 obtain⟨g,O,P,hB⟩:=hcut;obtain⟨aw,K,L,M⟩:=P.fin hB;have eX:=J K;have rO:=J L;have xC:=J M;have gV:=J P.box;obtain⟨B1,e1,B2,e2,B3,e3,B4,e4,B5,N,B6,e6,B7,e7,B8,e8,rfl,-⟩:=P.D;obtain⟨k0,k1,k2,k3,k4,k5,k6,k7,k8⟩:=nine gV (gD _ _);clear K L M P hB a y;go_wp2_with fail
 exact bodyPost_ret (iV eX rO) rfl xC
theorem GG (f:iu)(A1 A2 A3 A4 A5 A6 A7 A8:Option Addr)(c1 c2 c3 c4 c5 c6 c7 c8:Nat)(i0:gN f.gt)(s1:Sl iA 9 v (Tf v) A1 f.ga)(s2:Sl kO 2 v (Tf v) A2 f.f6)(s3:Sl jn 3 v (Tf v) A3 f.ge)(s4:Sl kn 2 v (Tf v) A4 f.a')(s5:Sl kI 4 v (Tf v) A5 f.gM)(s6:Sl ko 1 v (Tf v) A6 f.d')(s7:Sl kx 1 v (Tf v) A7 f.fY)(s8:Sl gS 1 v (Tf v) A8 f.gP)(L:pD f)(h0:0<f.ga.length)(C M q2:Int)(hq:(C.tmod 16+16).tmod 16=3\/(C.tmod 16+16).tmod 16=4\/(C.tmod 16+16).tmod 16=5):Calls Tryz.prog 4 #[.agg #[f.gt,A1 f.ga.length c1,A2 f.f6.length c2,A3 f.ge.length c3,A4 f.a'.length c4,A5 f.gM.length c5,A6 f.d'.length c6,A7 f.fY.length c7,A8 f.gP.length c8],.agg #[C,M,q2]] v (ny v):=by
 obtain⟨Wf,Wq,Wr,Wg,Wl,b,G,cg,cl,Al,al,xN,oC,H,I,xR,xU,xJ,xH,ao,xI,j2,j1,j0,N,D⟩:=kW v f A1 A2 A3 A4 A5 A6 A7 A8 c1 c2 c3 c4 c5 c6 c7 c8 i0 s1 s2 s3 s4 s5 s6 s7 s8 L h0 C M q2;have b1:=L.ga;have b2:=L.ge;unfold ki at b1 b2;have O:=J L;have vg:=bG 24 (by kernel_rfl);have vl:=bG 26 (by kernel_rfl);obtain⟨r2,P,aD,ay⟩:=bJ q2 100 (by omega);obtain⟨q,ap,uY⟩:=aY (r2+(100:Nat)) 100 (by omega) (by omega);obtain⟨r1,aq,aE,Q⟩:=bJ M f.ga.length h0;obtain⟨i,ar,A⟩:=aY (r1+f.ga.length) f.ga.length h0 (by omega);have hK:0<f.ge.length->∃(r:Int) (k:Nat),M.tmod (f.ge.length:Int)=r/\ -(f.ge.length:Int)<r/\r<f.ge.length/\(r+f.ge.length).tmod (f.ge.length:Int)=(k:Int)/\k<f.ge.length:=λR=>by
  obtain⟨r,ha,hb,hc⟩:=bJ M f.ge.length R;obtain⟨k,hd,he⟩:=aY (r+f.ge.length) f.ge.length R (by omega);exact⟨r,k,ha,hb,hc,hd,he⟩
 have HK:=J hK;have bn:decide ((0:Int)<(f.ga.length:Int))=true:=decide_eq_true (by omega);have lh:((100:Nat):Int)=100:=rfl;rw[lh]at P ap;clear L hK lh i0 s1 s2 s3 s4 s5 s6 s7 s8;obtain⟨mm,aN⟩:∃m:Int,(C.tmod 16+16).tmod 16=m:=⟨_,rfl⟩
 rw[aN]at hq;obtain⟨r0,av⟩:∃r:Int,C.tmod 16=r/\ -16<r/\r<16:=bJ C 16 (by omega);obtain⟨S,Q,DD⟩:=av;rw[S]at aN;go_enter Tryz.func4,Tryz.ntmps4
 go_upto_if 39 with fail
 try clear al
 try clear xN
 try clear oC
 clear xR xU H I j2 P ar aq bn;go_cut [9]from 40 to 50 (λw wx=>∃k:Nat,w=.int .i64 k/\(0<f.ge.length->k<f.ge.length)/\Wl=wx)
 case first=>
  by_cases R:0<f.ge.length
  .obtain⟨r,k,e1,e2,e3,e4,e5⟩:=HK R;go_wp2_with fail
   go_meet
   exact⟨k,rfl,λ_=>e5,rfl⟩
  go_wp2_with fail
  go_meet
  exact⟨0,rfl,λh=>absurd h R,rfl⟩
 case rest=>
 obtain⟨k,rfl,aL,rfl⟩:=hcut;clear HK j1
 go_upto_block 0 with fail
 try rw[N]
 clear vg vl N xJ ao xH xI j0 S aN;go_cut []from 60 to 374 (λwx=>∃(g:iu) (T:List Value),TD v wx Wq.heap.size T g/\mp g)
 case first=>
  have qQ:Hid (Below v v b):=J D.low;obtain⟨x,D3,d3,D4,d4,D5,d5,D6,d6,D7,d7,D8,d8,hx,l4,l5,l6,l7,l8,aw,t4,t5,t6,t7,t8⟩:=D.z A;have B:=J (O.z x (kj hx));have EC:G<b.heap.size:=by obtain⟨gc,kD,K,-⟩:=D.K;exact K.lt
  have T4:=J t4;have T5:=J t5;have T6:=J t6;clear aw t4 t5 t6 t7 t8;rcases hq with rfl|rfl|rfl
  .have a:=B.gO;unfold ki at a;obtain⟨U,V,X,Y,E,s,j,d⟩:=jC (W:=b) One.int iw (by decide) T4 (c:=d4) a qQ;obtain⟨Z,cq,W4,t,F,l,-⟩:=dJ iw 22 X b.heap.size _ V U Y #[.int .i64 ((q:Int) - 2)] rfl s (by simp[Value.oneCell']) (by omega) d.size;have n:Below b b W4:=wL d s l;have e:=D.below n;have aa:(b.alloc (.cells #[] aK)).cell? (G,i*9+4)=some (D4 x.gO.length d4):=((aj ((gD b.heap.size b).alloc (ae _) _)).1 _ _ EC).trans l4;obtain⟨⟨vo,zI⟩,ab⟩:=e.sI (k:=4) A (by decide);have o:=e.sC hx (k:=4) (by decide) (Z (x.gO.length+1) cq) (λT u=>u.Yp (by obtain⟨gc,kD,K,-⟩:=e.K;exact TC.more gS.ok e.low K e.gG F j (y:=((q:Int) - 2)) ⟨rfl,by omega,by omega⟩ rfl (by decide) (by decide) (by decide)) (by simp));have p:=O.T.sE i (x:= {x with gO:=x.gO++[((q:Int) - 2)]}) {B.sw with gO:=B.gO.snoc _};have jq:=J o;have jR:=J p;have sv:=bG 22 (by kernel_rfl);clear s j F l o p e d n l4 l5 l6 l7 l8;go_wp2_with fail
   go_meet
   exact⟨_,_,jq,jR⟩
  .obtain⟨y,ye,yl⟩:=aY (q:Int) 12 (by omega) (by omega);rw[show((12:Nat):Int)=12 from rfl]at ye;have a:=B.gi;unfold ki at a;obtain⟨U,V,X,Y,E,s,j,d⟩:=jC (W:=b) One.part LU (by decide) T5 (c:=d5) a qQ;obtain⟨Z,cq,W4,t,F,l,-⟩:=dJ LU 47 X b.heap.size _ V U Y #[.int .i64 ((y:Int) - 1),.int .i64 ((q:Int)*200),.int .i64 0] rfl s (by simp[Value.oneCell']) (by omega) d.size;have n:Below b b W4:=wL d s l;have e:=D.below n;have aa:(b.alloc (.cells #[] xu)).cell? (G,i*9+5)=some (D5 x.gi.length d5):=((aj ((gD b.heap.size b).alloc (ae _) _)).1 _ _ EC).trans l5;obtain⟨⟨vo,zI⟩,ab⟩:=e.sI (k:=5) A (by decide);have o:=e.sC hx (k:=5) (by decide) (Z (x.gi.length+1) cq) (λT u=>u.XS (by obtain⟨gc,kD,K,-⟩:=e.K;exact TC.more lS.ok e.low K e.gG F j (y:=(⟨(y:Int) - 1,(q:Int)*200,0⟩:Part)) ⟨rfl,⟨by show _<=(y:Int) - 1;omega,by show(y:Int) - 1<=_;omega⟩,⟨by show _<=(q:Int)*200;omega,by show(q:Int)*200<=_;omega⟩,⟨by show(_:Int)<=0;omega,by show(0:Int)<=_;omega⟩⟩ rfl (by decide) (by decide) (by decide)) (by simp));have p:=O.T.sE i (x:= {x with gi:=x.gi++[(⟨(y:Int) - 1,(q:Int)*200,0⟩:Part)]}) {B.sw with gi:=B.gi.snoc _};have jq:=J o;have jR:=J p;have sv:=bG 47 (by kernel_rfl);clear s j F l o p e d n l4 l5 l6 l7 l8;go_wp2_with fail
   go_meet
   exact⟨_,_,jq,jR⟩
  obtain⟨y,ye,yl⟩:=aY (q:Int) 6 (by omega) (by omega);rw[show((6:Nat):Int)=6 from rfl]at ye;obtain⟨z,ze,zl⟩:=aY (q:Int) 5 (by omega) (by omega);rw[show((5:Nat):Int)=5 from rfl]at ze;have a:=B.M;unfold ki at a;obtain⟨U,V,X,Y,E,s,j,d⟩:=jC (W:=b) One.M LH (by decide) T6 (c:=d6) a qQ;obtain⟨Z,cq,W4,t,F,l,-⟩:=dJ LH 48 X b.heap.size _ V U Y #[.int .i64 (y:Int),.int .i64 ((z:Int) - 1),.int .i64 (q:Int),.int .i64 0] rfl s (by simp[Value.oneCell']) (by omega) d.size;have n:Below b b W4:=wL d s l;have e:=D.below n;have aa:(b.alloc (.cells #[] xg)).cell? (G,i*9+6)=some (D6 x.gh.length d6):=((aj ((gD b.heap.size b).alloc (ae _) _)).1 _ _ EC).trans l6;obtain⟨⟨vo,zI⟩,ab⟩:=e.sI (k:=6) A (by decide);have o:=e.sC hx (k:=6) (by decide) (Z (x.gh.length+1) cq) (λT u=>u.V3 (by obtain⟨gc,kD,K,-⟩:=e.K;exact TC.more mc.ok e.low K e.gG F j (y:=(⟨(y:Int),(z:Int) - 1,(q:Int),0⟩:ml)) ⟨rfl,⟨by show _<=(y:Int);omega,by show(y:Int)<=_;omega⟩,⟨by show _<=(z:Int) - 1;omega,by show(z:Int) - 1<=_;omega⟩,⟨by show _<=(q:Int);omega,by show(q:Int)<=_;omega⟩,⟨by show(_:Int)<=0;omega,by show(0:Int)<=_;omega⟩⟩ rfl (by decide) (by decide) (by decide)) (by simp));have p:=O.T.sE i (x:= {x with gh:=x.gh++[(⟨(y:Int),(z:Int) - 1,(q:Int),0⟩:ml)]}) {B.sw with M:=B.M.snoc _};have jq:=J o;have jR:=J p;have sv:=bG 48 (by kernel_rfl);clear s j F l o p e d n l4 l5 l6 l7 l8;go_wp2_with fail
  go_meet
  exact⟨_,_,jq,jR⟩
 case rest=>
 obtain⟨g,T,hT,hB⟩:=hcut;obtain⟨aM,ac,ad,ak⟩:=hT.fin hB;have eX:=J ac;have rO:=J ad;have xC:=J ak;have gV:=J hT.box;obtain⟨B1,e1,B2,e2,B3,e3,B4,e4,B5,e5,B6,e6,B7,e7,B8,e8,rfl,-⟩:=hT.D;obtain⟨k0,k1,k2,k3,k4,k5,k6,k7,k8⟩:=nine gV (gD _ _);clear ac ad ak hT hB D O;go_wp2_with fail
 exact bodyPost_ret (iV eX rO) rfl xC
theorem GH (f:iu)(A1 A2 A3 A4 A5 A6 A7 A8:Option Addr)(c1 c2 c3 c4 c5 c6 c7 c8:Nat)(i0:gN f.gt)(s1:Sl iA 9 v (Tf v) A1 f.ga)(s2:Sl kO 2 v (Tf v) A2 f.f6)(s3:Sl jn 3 v (Tf v) A3 f.ge)(s4:Sl kn 2 v (Tf v) A4 f.a')(s5:Sl kI 4 v (Tf v) A5 f.gM)(s6:Sl ko 1 v (Tf v) A6 f.d')(s7:Sl kx 1 v (Tf v) A7 f.fY)(s8:Sl gS 1 v (Tf v) A8 f.gP)(R:pD f)(h0:0<f.ga.length)(D S q2:Int)(hq:(D.tmod 16+16).tmod 16=6\/(D.tmod 16+16).tmod 16=7\/(D.tmod 16+16).tmod 16=8):Calls Tryz.prog 4 #[.agg #[f.gt,A1 f.ga.length c1,A2 f.f6.length c2,A3 f.ge.length c3,A4 f.a'.length c4,A5 f.gM.length c5,A6 f.d'.length c6,A7 f.fY.length c7,A8 f.gP.length c8],.agg #[D,S,q2]] v (ny v):=by
 obtain⟨Wf,Wq,Wr,Wg,Wl,j,G,cg,cl,Al,al,xN,oC,H,I,xR,xU,xJ,xH,ao,xI,j2,j1,j0,T,C⟩:=kW v f A1 A2 A3 A4 A5 A6 A7 A8 c1 c2 c3 c4 c5 c6 c7 c8 i0 s1 s2 s3 s4 s5 s6 s7 s8 R h0 D S q2;have b1:=R.ga;have b2:=R.ge;unfold ki at b1 b2;have aQ:=J R;have vg:=bG 24 (by kernel_rfl);have vl:=bG 26 (by kernel_rfl);obtain⟨r2,U,aE,aD⟩:=bJ q2 100 (by omega);obtain⟨l,ap,uY⟩:=aY (r2+(100:Nat)) 100 (by omega) (by omega);obtain⟨r1,aq,aL,V⟩:=bJ S f.ga.length h0;obtain⟨i,ar,K⟩:=aY (r1+f.ga.length) f.ga.length h0 (by omega);have hK:0<f.ge.length->∃(r:Int) (k:Nat),S.tmod (f.ge.length:Int)=r/\ -(f.ge.length:Int)<r/\r<f.ge.length/\(r+f.ge.length).tmod (f.ge.length:Int)=(k:Int)/\k<f.ge.length:=λX=>by
  obtain⟨r,ha,hb,hc⟩:=bJ S f.ge.length X;obtain⟨k,hd,he⟩:=aY (r+f.ge.length) f.ge.length X (by omega);exact⟨r,k,ha,hb,hc,hd,he⟩
 have HK:=J hK;have bn:decide ((0:Int)<(f.ga.length:Int))=true:=decide_eq_true (by omega);have lh:((100:Nat):Int)=100:=rfl;rw[lh]at U ap;clear R hK lh i0 s1 s2 s3 s4 s5 s6 s7 s8;obtain⟨mm,L⟩:∃m:Int,(D.tmod 16+16).tmod 16=m:=⟨_,rfl⟩
 rw[L]at hq;obtain⟨r0,av⟩:∃r:Int,D.tmod 16=r/\ -16<r/\r<16:=bJ D 16 (by omega);obtain⟨Y,V,DD⟩:=av;rw[Y]at L;go_enter Tryz.func4,Tryz.ntmps4
 go_upto_if 39 with fail
 try clear al
 try clear xN
 try clear oC
 clear xR xU H I j2 U ar aq bn;go_cut [9]from 40 to 50 (λw wx=>∃k:Nat,w=.int .i64 k/\(0<f.ge.length->k<f.ge.length)/\Wl=wx)
 case first=>
  by_cases X:0<f.ge.length
  .obtain⟨r,k,e1,e2,e3,e4,e5⟩:=HK X;go_wp2_with fail
   go_meet
   exact⟨k,rfl,λ_=>e5,rfl⟩
  go_wp2_with fail
  go_meet
  exact⟨0,rfl,λh=>absurd h X,rfl⟩
 case rest=>
 obtain⟨k,rfl,aM,rfl⟩:=hcut;clear HK j1
 go_upto_block 0 with fail
 try rw[T]
 clear vg vl T xJ ao xH xI j0 Y L;go_cut []from 60 to 374 (λwx=>∃(g:iu) (cs:List Value),TD v wx Wq.heap.size cs g/\mp g)
 case first=>
  have qQ:Hid (Below v v j):=J C.low;obtain⟨x,D3,d3,D4,d4,D5,d5,D6,d6,D7,d7,D8,d8,hx,l4,l5,l6,l7,l8,aw,t4,t5,t6,t7,t8⟩:=C.z K;have O:=J (aQ.z x (kj hx));have EC:G<j.heap.size:=by obtain⟨gc,kD,Z,-⟩:=C.K;exact Z.lt
  have T7:=J t7;have T8:=J t8;clear aw t4 t5 t6 t7 t8;rcases hq with rfl|rfl|rfl
  .obtain⟨y,ye,yl⟩:=aY (l:Int) 4 (by omega) (by omega);rw[show((4:Nat):Int)=4 from rfl]at ye;obtain⟨z,ze,zl⟩:=aY (l:Int) 7 (by omega) (by omega);rw[show((7:Nat):Int)=7 from rfl]at ze;obtain⟨u,ue,ul⟩:=aY (l:Int) 2 (by omega) (by omega);rw[show((2:Nat):Int)=2 from rfl]at ue;have a:=O.o;unfold ki at a;obtain⟨Ap,cp,W2,c0,E,t,o,d⟩:=jC (W:=j) One.asg Hl (by decide) T7 (c:=d7) a qQ;obtain⟨P,Q,M,A,F,p,-⟩:=dJ Hl 49 W2 j.heap.size _ cp Ap c0 #[.int .i64 ((y:Int) - 1),.int .i64 ((z:Int) - 2),.int .i64 (l:Int),.int .i64 (u:Int)] rfl t (by simp[Value.oneCell']) (by omega) d.size;have q:Below j j M:=wL d t p;have n:=C.below q;have aa:(j.alloc (.cells #[] oQ)).cell? (G,i*9+7)=some (D7 x.gx.length d7):=((aj ((gD j.heap.size j).alloc (ae _) _)).1 _ _ EC).trans l7;obtain⟨⟨vo,zI⟩,ab⟩:=n.sI (k:=7) K (by decide);have s:=n.sC hx (k:=7) (by decide) (P (x.gx.length+1) Q) (λcs N=>N.V4 (by obtain⟨gc,kD,Z,-⟩:=n.K;exact TC.more md.ok n.low Z n.gG F o (y:=(⟨(y:Int) - 1,(z:Int) - 2,(l:Int),(u:Int)⟩:Delta)) ⟨rfl,⟨by show _<=(y:Int) - 1;omega,by show(y:Int) - 1<=_;omega⟩,⟨by show _<=(z:Int) - 2;omega,by show(z:Int) - 2<=_;omega⟩,⟨by show _<=(l:Int);omega,by show(l:Int)<=_;omega⟩,⟨by show _<=(u:Int);omega,by show(u:Int)<=_;omega⟩⟩ rfl (by decide) (by decide) (by decide)) (by simp));have B:=aQ.T.sE i (x:= {x with gx:=x.gx++[(⟨(y:Int) - 1,(z:Int) - 2,(l:Int),(u:Int)⟩:Delta)]}) {O.sw with o:=O.o.snoc _};have jq:=J s;have jR:=J B;have sv:=bG 49 (by kernel_rfl);clear t o F p s B n d q l4 l5 l6 l7 l8;go_wp2_with fail
   go_meet
   exact⟨_,_,jq,jR⟩
  .obtain⟨y,ye,yl⟩:=aY (l:Int) 42 (by omega) (by omega);rw[show((42:Nat):Int)=42 from rfl]at ye;have a:=O.gR;unfold ki at a;obtain⟨Ap,cp,W2,c0,E,t,o,d⟩:=jC (W:=j) One.ins AC (by decide) T8 (c:=d8) a qQ;obtain⟨P,Q,M,A,F,p,-⟩:=dJ AC 50 W2 j.heap.size _ cp Ap c0 #[.int .i64 (y:Int),.int .i64 (l:Int)] rfl t (by simp[Value.oneCell']) (by omega) d.size;have q:Below j j M:=wL d t p;have n:=C.below q;have aa:(j.alloc (.cells #[] qj)).cell? (G,i*9+8)=some (D8 x.gR.length d8):=((aj ((gD j.heap.size j).alloc (ae _) _)).1 _ _ EC).trans l8;obtain⟨⟨vo,zI⟩,ab⟩:=n.sI (k:=8) K (by decide);have s:=n.sC hx (k:=8) (by decide) (P (x.gR.length+1) Q) (λcs N=>N.Ys (by obtain⟨gc,kD,Z,-⟩:=n.K;exact TC.more ky.ok n.low Z n.gG F o (y:=(⟨(y:Int),(l:Int)⟩:Ins)) ⟨rfl,⟨by show _<=(y:Int);omega,by show(y:Int)<=_;omega⟩,⟨by show _<=(l:Int);omega,by show(l:Int)<=_;omega⟩⟩ rfl (by decide) (by decide) (by decide)) (by simp));have B:=aQ.T.sE i (x:= {x with gR:=x.gR++[(⟨(y:Int),(l:Int)⟩:Ins)]}) {O.sw with gR:=O.gR.snoc _};have jq:=J s;have jR:=J B;have sv:=bG 50 (by kernel_rfl);clear t o F p s B n d q l4 l5 l6 l7 l8;go_wp2_with fail
   go_meet
   exact⟨_,_,jq,jR⟩
  obtain⟨y,ye,yl⟩:=aY (l:Int) 14 (by omega) (by omega);rw[show((14:Nat):Int)=14 from rfl]at ye;have a:=aQ.f6;unfold ki at a;obtain⟨Ap,cp,W2,c0,E,t,o,d⟩:=jC (W:=j) One.Y LK (by decide) C.f6 (c:=c2) a qQ;have aa:(j.alloc (.cells #[] UK)).cell? (v,2)=some (A2 f.f6.length c2):=C.box.at ((gD _ _).alloc (ae _) _) 2 rfl;obtain⟨P,Q,M,A,F,p,-⟩:=dJ LK 25 W2 j.heap.size _ cp Ap c0 #[.int .i64 ((l:Int)*12000),.int .i64 ((y:Int) - 1)] rfl t (by simp[Value.oneCell']) (by omega) d.size;have q:Below j j M:=wL d t p;have n:=C.below q;have ab:M.frozen? (v,2)=_:=n.box.frozen 2;have zI:M.cell? (v,2)=some (A2 f.f6.length c2):=n.box.cell 2;have s:=n.td.field 2 (P (f.f6.length+1) Q) (g':= {f with f6:=f.f6++[(⟨(l:Int)*12000,(y:Int) - 1⟩:nD)]}) (by
   have hs:=sZ kO.ok F o n.low (Tf.low n.low) (y:=(⟨(l:Int)*12000,(y:Int) - 1⟩:nD)) ⟨rfl,⟨by show _<=(l:Int)*12000;omega,by show(l:Int)*12000<=_;omega⟩,⟨by show _<=(y:Int) - 1;omega,by show(y:Int) - 1<=_;omega⟩⟩ rfl (λb ay hk _=>⟨ay,_,hk,by decide⟩) (by decide);obtain⟨B1,e1,B2,e2,B3,e3,B4,e4,B5,e5,B6,e6,B7,e7,B8,e8,e,i0,n1,n2,n3,n4,n5,n6,n7,n8⟩:=n.td.D;rw[e];exact⟨B1,e1,P,Q,B3,e3,B4,e4,B5,e5,B6,e6,B7,e7,B8,e8,by simp,i0,n1,hs,n3,n4,n5,n6,n7,n8⟩)
  have jq:=J s;have jR:Hid (mp {f with f6:=f.f6++[(⟨(l:Int)*12000,(y:Int) - 1⟩:nD)]}):=J {aQ.T with f6:=aQ.f6.snoc _};have sv:=bG 25 (by kernel_rfl);clear t o F p s n d q l4 l5 l6 l7 l8;go_wp2_with fail
  go_meet
  exact⟨_,_,jq,jR⟩
 case rest=>
 obtain⟨g,cs,hT,hB⟩:=hcut;obtain⟨aN,ac,ad,ak⟩:=hT.fin hB;have eX:=J ac;have rO:=J ad;have xC:=J ak;have gV:=J hT.box;obtain⟨B1,e1,B2,e2,B3,e3,B4,e4,B5,e5,B6,e6,B7,e7,B8,e8,rfl,-⟩:=hT.D;obtain⟨k0,k1,k2,k3,k4,k5,k6,k7,k8⟩:=nine gV (gD _ _);clear ac ad ak hT hB C aQ;go_wp2_with fail
 exact bodyPost_ret (iV eX rO) rfl xC
