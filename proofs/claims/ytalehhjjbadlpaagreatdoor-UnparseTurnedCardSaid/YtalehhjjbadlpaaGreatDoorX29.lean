/- Lemmas. -/
import Derived.Test.YtalehhjjbadlpaaGreatDoorMkM
import Derived.Test.YtalehhjjbadlpaaGreatDoorX25
import Derived.Handy
set_option linter.all false
set_option maxRecDepth 100000
set_option maxHeartbeats 32000000
namespace Go.Proofs.YtalehhjjbadlpaaGreatDoor
open Go.RowKit
variable{i:List Value}{e b:Nat}{h a:World}(v:World){m:Option Addr}{t:Array Value}{u:iu}
theorem Ng {T E size:Nat}(a:Tryz.prog.underlying T=some (.slice E))(b:∀w,(sizeOf E).run Tryz.prog w=.ok size w)(A:Option Addr)(n c k:Nat)(z:Int)(d:z=(k:Int))(e:k<=c)(w:World):
  (Instr.slice T (A n c) none (some (.int .i64 z)) none).run Tryz.prog w=.ok (.slice (if c=0 then A else A.map (·.add 0)) k c) w:=by
 subst d;simp[Instr.slice,Instr.sliceBounds,Instr.sliceBound,asIntOf,run_underlying a,b,Result.andThen,e]
theorem Rd.pre {n c k:Nat}{zs:List Int}(B:Rd h e m n 1 (aC zs))(g:k<=n)(i:n<=c):Rd h e (if c=0 then m else m.map (·.add 0)) k 1 (aC (zs.take k)):=by
 have d:=B.1;simp only[aC,lE]at d;refine⟨by simp only[aC,lE,ot];omega,λl=> ?_⟩;obtain⟨b,o,rfl,A,f⟩:=B.2 (by omega);rw[if_neg (by omega)];refine⟨b,o,rfl,A,λj u a=>f j u ?_⟩;simp only[aC,List.map_take,pY]at a;split at a
 .exact a
 cases a
def One {α:Type}(R:Rel α):Prop:=∀w S a x,R w S a x->∀u∈a,u.oneCell'=true
theorem One.int:One gS:=λw S b x h u a=>by obtain⟨rfl,-⟩:=h;simp at a;subst a;rfl
theorem One.ins:One ky:=λw S b x h u a=>by obtain⟨rfl,-⟩:=h;simp at a;rcases a with rfl|rfl<;>rfl
theorem One.part:One lS:=λw S b x h u a=>by obtain⟨rfl,-⟩:=h;simp at a;rcases a with rfl|rfl|rfl<;>rfl
theorem One.M:One mc:=λw S b x h u a=>by obtain⟨rfl,-⟩:=h;simp at a;rcases a with rfl|rfl|rfl|rfl<;>rfl
theorem One.asg:One md:=λw S b x h u a=>by obtain⟨rfl,-⟩:=h;simp at a;rcases a with rfl|rfl|rfl|rfl<;>rfl
theorem One.Y:One kO:=λw S b x h u a=>by obtain⟨rfl,-⟩:=h;simp at a;rcases a with rfl|rfl<;>rfl
theorem One.z:One iA:=λw S b x h u a=>by
 obtain⟨c,c3,d,e,f,g,i,j,k,l,m,n,rfl,-⟩:=h;simp at a;rcases a with rfl|rfl|rfl|rfl|rfl|rfl|rfl|rfl|rfl<;>rfl
theorem One.X:One lj:=λw S b x h u a=>by
 obtain⟨c,d,e,f,g,c2,i,c3,j,k,rfl,-⟩:=h;simp at a;rcases a with rfl|rfl|rfl|rfl|rfl|rfl<;>rfl
theorem One.look:One jn:=λw S b x h u a=>by
 obtain⟨c,c2,rfl,-⟩:=h;simp at a;rcases a with rfl|rfl|rfl<;>rfl
theorem One.tn:One kn:=λw S b x h u a=>by
 obtain⟨c,c2,rfl,-⟩:=h;simp at a;rcases a with rfl|rfl<;>rfl
theorem One.qS:One kI:=λw S b x h u a=>by obtain⟨rfl,-⟩:=h;simp at a;rcases a with rfl|rfl|rfl|rfl<;>rfl
theorem One.tH:One ko:=λw S b x h u a=>by obtain⟨A,c,rfl,-⟩:=h;simp at a;subst a;rfl
theorem One.code:One kx:=λw S b x h u a=>by obtain⟨A,c,rfl,-⟩:=h;simp at a;subst a;rfl
section
variable {α:Type} {R:Rel α} {size:Nat} {w w':World} {S:Bs} {cells:List Value} {xs:List α} {A:Option Addr}
theorem Fl.xV (one:One R)(c:0<size)(h:Fl R size w S cells xs):∀u∈cells,u.oneCell'=true:=λu d=>by
 obtain⟨i,hi⟩:=pn.1 d;have a:=(ll.1 hi).1;rw[h.1]at a;have e:i / size<xs.length:=Nat.div_lt_of_lt_mul (by rw[Nat.mul_comm];exact a);obtain⟨f,g,j,k⟩:=h.2 (i / size) _ (jO e);have b:i % size<f.length:=by rw[j];exact Nat.mod_lt _ c
 have:=k (i % size) _ (jO b);rw[Nat.mul_comm,Nat.div_add_mod,hi]at this;cases this;exact one _ _ _ _ g _ (List.getElem_mem b)
theorem Sl.yd (one:One R)(c:0<size)(d:∀b,S b->b<w)(h:Sl R size w S A xs):∃cells,Fl R size w S cells xs/\Rd w w.heap.size A xs.length size cells/\∀u∈cells,u.oneCell'=true:=by obtain⟨cells,a,f⟩:=h;refine⟨cells,a,⟨a.1,λg=> ?_⟩,a.xV one c⟩;obtain⟨b,o,e,i,j⟩:=f g;exact⟨b,o,e,d b i,j⟩
theorem Fl.put (f:Fl R size w S cells xs){i:Nat}{x l:α}(n:xs[i]?=some x){k:Nat}(q:k<size)(v:Value)(p:∀s,R w S s x->s.length=size->R w S (s.set k v) l):Fl R size w S (cells.set (i*size+k) v) (xs.set i l):=by
 have hi:=(ll.1 n).1;refine⟨by simp[f.1],λj y b=> ?_⟩;by_cases e:i=j
 .subst e;rw[List.getElem?_set_self hi]at b;cases b;obtain⟨s,g,c,d⟩:=f.2 i x n;refine⟨s.set k v,p s g c,by simp[c],λm u a=> ?_⟩;by_cases o:k=m
  .subst o;rw[List.getElem?_set_self (by omega)]at a;cases a;have:=(ll.1 (d k _ (jO (by omega)))).1;rw[List.getElem?_set_self this]
  rw[List.getElem?_set_ne o]at a;rw[List.getElem?_set_ne (by omega)];exact d m u a
 rw[List.getElem?_set_ne e]at b;obtain⟨s,g,c,d⟩:=f.2 j y b;refine⟨s,g,c,λm u a=> ?_⟩;have r:=(ll.1 a).1;have:i*size+k≠j*size+m:=by
  rcases Nat.lt_or_gt_of_ne e with h|h
  .have:=xw size (show i+1<=j from h);rw[rF]at this;omega
  have:=xw size (show j+1<=i from h);rw[rF]at this;omega
 rw[List.getElem?_set_ne this];exact d m u a
theorem Bk.sl {g:Nat}{t:TypeId}{a:Array Value}(b:Bk w g t a)(c:∀(j:Nat) u,cells[j]?=some u->a[j]?=some u)(d:Fl R size w S cells xs)(e:S g):Sl R size w S (g,0) xs:=⟨cells,d,λ_=>⟨g,0,rfl,e,λj u f=>by rw[mU];exact(b.cell j).trans (c j u f)⟩⟩
theorem Sl.put (m:R.Ok){g:Nat}{t:TypeId}{a:Array Value}(p:Bk w g t a)(n:∀(j:Nat) u,cells[j]?=some u->a[j]?=some u)(q:Fl R size w S cells xs)(r:¬S g){i:Nat}{x o:α}(s:xs[i]?=some x){k:Nat}(y:k<size)(v:Value)
  (z:∀E,R w S E x->E.length=size->R w S (E.set k v) o):Sl R size (w.setCell (g,i*size+k) v) (λb=>S b\/b=g) (g,0) (xs.set i o):=by
 have B:=q.put s y v z;have C:Same S w (w.setCell (g,i*size+k) v):=λb f=>Below.heap_setCell w (g,i*size+k) v b (λe=>r (by have D:b=g:=e;rw[<-D];exact f))
 refine(p.set (i*size+k) v).sl (λj u c=> ?_) ((B.keep m C).mono m λb h=> .inl h) (.inr rfl);by_cases e:i*size+k=j
 .subst e;have d:i*size+k<cells.length:=by have:=(ll.1 c).1;simpa using this
  rw[List.getElem?_set_self d]at c;cases c;have:=n _ _ (jO d);have l:=(mq.1 this).1;simp[l]
 rw[List.getElem?_set_ne e]at c;rw[Array.getElem?_setIfInBounds_ne e];exact n j u c
theorem NZ {q n c:Nat}{e:TypeId}(h:w.ownsRow q e size (A n c) n cells)(o:0<n)(p:0<size):∃g a,A=some ⟨g,0,none⟩/\q<=g/\Bk w g e a/\∀(j:Nat) u,cells[j]?=some u->a[j]?=some u:=by
 rcases h.2 with⟨b,d⟩|⟨g,i,a,b,k,f,l,-⟩
 .omega
 simp only[oa,true_and]at b;obtain⟨rfl,rfl⟩:=b;refine⟨g,a,rfl,k,f,λj u m=> ?_⟩;have:=h.cells (g:=g) rfl j u m;rw[jt]at this;have d:=Bk.cell (w:=w) f j;simp only[mU]at this;rw[d]at this;exact this
end
theorem Tf.low {w':World}(c:Below h h w'):∀b,Tf h b->Tf w' b:=λb ⟨d,t,a,e⟩=>⟨d,t,(c.block b a.lt).trans a,e⟩
theorem Sl.tf {α:Type}{R:Rel α}(c:R.Ok){w':World}{xs:List α}(size:Sl R e h (Tf h) m xs)(a:Below h h w'):Sl R e w' (Tf w') m xs:=size.C c ⟨λb d=>a.block b (Tf.lt b d),Tf.low a⟩
section
attribute [-go_sem] storeVar
theorem Qq {a:Array Value}(c:h.heap[e]?=some (.cells t gI (0,0)))(b:t.size=9)(d:a.getD 2 undef=.pointer (e,0):=by rfl):(results Tryz.f5 a).run Tryz.prog h=.ok (.agg t) h:=by rw[pM (fn:=Tryz.f5) (p:=2) (ty:=gI) rfl,d];have:=run_loadVar_row (P:=Tryz.prog) h e gI gI t (0,0) _ c Tryz.underlying32 rfl (by rw[zJ,b]);simp[asAddr,Result.andThen,this]
theorem Kj (A:Option Addr)(n c:Nat)(zs:List Int)(S:n<=c)(L:Rd v v.heap.size A n 1 (aC zs))(M:∀z∈zs,gN z):Calls Tryz.prog 5 #[A n c] v (yV v):=by
 have N:=Ng (size:=1) (T:=22) (E:=3) Tryz.underlying22 (by intro v;kernel_rfl) A n c (min n 300) (min (n:Int) 300) (by omega) (by omega);have r:=J (L.pre (c:=c) (Nat.min_le_left n 300) S);have G:=J (λz (h:z∈zs.take (min n 300))=>M z (List.mem_of_mem_take h));clear L M;obtain⟨y,O⟩:∃y,(if c=0 then A else A.map (·.add 0))=y:=⟨_,rfl⟩
 rw[O]at N r;clear O;go_enter Tryz.func5,Tryz.ntmps5
 go_wp2_with fail
 obtain⟨l,g⟩:∃l,v.alloc (.cells i' gI)=l:=⟨_,rfl⟩
 change Calls _ _ _ (v.alloc (.cells i' gI)) _;rw[g];have i:Below v v l:=by rw[<-g];exact(gD _ _).alloc (ae _) _
 have o:Bk l v.heap.size gI i':=by rw[<-g];exact Bk.new _ _ _
 have H:v.heap.size<l.heap.size:=o.lt;clear g;have s:Rd l l.heap.size y (min n 300) 1 (aC (zs.take (min n 300))):=(r.below i (ae _)).mono i.size;refine(CL l y (min n 300) c (zs.take (min n 300)) s G (by omega)).mono ?_;rintro e d ⟨f,a,Q,rfl,B,I⟩;have U:=J Q;have C:Bk d v.heap.size gI i':=(I.block _ H).trans o;have j:a.length=9:=by obtain⟨V,W,X,c2,Y,c3,Z,c4,A5,c5,A6,c6,A7,c7,A8,c8,rfl,-⟩:=B;rfl
 have m:(a.toArray.all λx=>x.oneCell')=true:=by obtain⟨V,W,X,c2,Y,c3,Z,c4,A5,c5,A6,c6,A7,c7,A8,c8,rfl,-⟩:=B;simp[Value.oneCell']
 have aa:=run_storeVar_row (P:=Tryz.prog) d v.heap.size gI gI i' a.toArray C (by rw[zJ,List.size_toArray,j]) (by simp[i',j]) m;have R:=setRow_heap d v.heap.size i' a.toArray gI (0,0) C;have k:∀b,b≠v.heap.size->(d.setRow v.heap.size a.toArray).heap[b]?=d.heap[b]? :=λb q=>setRow_other d v.heap.size b _ q
 have p:∀b,Tf d b->b≠v.heap.size:=by rintro b ⟨ad,t,D,F⟩ rfl;have:=(dw D C).1;subst this;exact absurd F (by decide)
 have u:kt (d.setRow v.heap.size a.toArray) (Tf (d.setRow v.heap.size a.toArray)) a f:=kt.ok.mono (kt.ok.keep B (λb q=>k b (p b q))) (λb q=>by
  obtain⟨ad,t,D,F⟩:=q;exact⟨ad,t,(k b (p b ⟨ad,t,D,F⟩)).trans D,F⟩)
 have w:Below v v (d.setRow v.heap.size a.toArray):=(i.trans (I.mono (by omega))).trans ⟨rfl,rfl,rfl,by simp,λb q=>k b (by omega)⟩;generalize d.setRow v.heap.size a.toArray=wE at*
 have KH:Hid (yV v (.returned (.agg a.toArray)) wE):=J ⟨f,a,U,rfl,u,w⟩;have K:=J R;have rO:Hid (a.toArray.size=9):=J (by simpa using j);clear R w u p k Q B I C m s o i N j;go_wp2_with fail
 exact bodyPost_ret (Qq K rO) rfl KH
end
abbrev xi:TypeId:=23
structure TD (w W:World)(rb:Nat)(cs:List Value)(g:iu):Prop where
 low:Below w w W
 S:w.heap.size<rb
 box:Bk W w.heap.size gI cs.toArray
 c:Bk W rb gI i'
 D:kt W (Tf W) cs g
def ny (w:World)(e:Ending)(w':World):Prop:=∃(g:iu) (a:List Value),mp g/\e=.returned (.agg a.toArray)/\kt w' (Tf w') a g/\Below w w w'
section
variable {w W W':World} {rb:Nat} {cs cs':List Value} {g g':iu}
theorem Xt (a:∀b,Tf W b->W'.heap[b]?=W.heap[b]?):Same (Tf W) W W'/\∀b,Tf W b->Tf W' b:=
 ⟨a,λb h=>by
  obtain⟨c,t,d,e⟩:=h;exact⟨c,t,(a b ⟨c,t,d,e⟩).trans d,e⟩⟩
theorem kt.C (h:kt W (Tf W) cs g)(a:∀b,Tf W b->W'.heap[b]?=W.heap[b]?):kt W' (Tf W') cs g:=kt.ok.mono (kt.ok.keep h (Xt a).1) (Xt a).2
theorem TD.below (h:TD w W rb cs g)(a:Below W W W'):TD w W' rb cs g:=⟨h.low.trans (a.mono h.low.size),h.S,(a.block _ h.box.lt).trans h.box,(a.block _ h.c.lt).trans h.c,h.D.C λb c=>a.block b (Tf.lt b c)⟩
theorem Tf.asc (a:Bk W w.heap.size gI cs.toArray):∀b,Tf W b->b≠w.heap.size:=by rintro b ⟨c,t,d,e⟩ rfl;have:=(dw d a).1;subst this;exact absurd e (by decide)
theorem TD.field (h:TD w W rb cs g)(j:Nat)(v:Value)(a:kt W (Tf W) (cs.set j v) g'):TD w (W.setCell (w,j) v) rb (cs.set j v) g':=by refine⟨h.low.setCell (ae _) _,h.S,?_,h.c.I (Nat.ne_of_gt h.S) _,a.C λb c=>Below.heap_setCell W (w,j) v b (λe=>Tf.asc h.box b c e)⟩;have:=h.box.set j v;simpa using this
theorem TJ (h:kt W (Tf W) cs g):cs.length=9/\(cs.toArray.all λx=>x.oneCell')=true:=by obtain⟨a,b,c,c2,d,c3,e,i,j,k,l,m,n,o,q,r,rfl,-⟩:=h;exact⟨rfl,by simp[Value.oneCell']⟩
theorem iV {a:Array Value}{b:Nat}{cs:Array Value}(d:W.heap[b]?=some (.cells cs gI (0,0)))(c:cs.size=9)(e:a.getD 4 undef=.pointer (b,0):=by rfl):(results Tryz.f4 a).run Tryz.prog W=.ok (.agg cs) W:=by rw[pM (fn:=Tryz.f4) (p:=4) (ty:=gI) rfl,e];have:=run_loadVar_row (P:=Tryz.prog) W b gI gI cs (0,0) _ d Tryz.underlying32 rfl (by rw[zJ,c]);simp[asAddr,Result.andThen,this]
theorem TD.fin (h:TD w W rb cs g)(k:mp g):((storeVar gI (rb,0) (.agg cs.toArray)).run Tryz.prog W=.ok () (W.setRow rb cs.toArray))/\Bk (W.setRow rb cs.toArray) rb gI cs.toArray/\cs.toArray.size=9/\ny w (.returned (.agg cs.toArray)) (W.setRow rb cs.toArray):=by
 obtain⟨e,a⟩:=TJ h.D;have d:∀b,b≠rb->(W.setRow rb cs.toArray).heap[b]?=W.heap[b]? :=λb j=>setRow_other W _ b _ j
 have i:∀b,Tf W b->b≠rb:=by rintro b ⟨c,t,l,m⟩ rfl;have:=(dw l h.c).1;subst this;exact absurd m (by decide)
 refine⟨?_,setRow_heap W _ i' cs.toArray gI (0,0) h.c,by simpa using e,g,cs,k,rfl,h.D.C λb n=>d b (i b n),h.low.trans ⟨rfl,rfl,rfl,by simp,λb j=>d b (by have:=h.S;omega)⟩⟩;exact run_storeVar_row (P:=Tryz.prog) W rb gI gI i' cs.toArray h.c (by rw[zJ,List.size_toArray,e]) (by simp[i',e]) a
theorem yp {α:Type}{R:Rel α}(i:R.Ok){q s n c:Nat}{e:TypeId}{A:Option Addr}{r:List Value}{t:List α}(h:W.ownsRow s e q (A n c) n r)(j:Fl R q w (Tf w) r t)(a:Below w w W)(he:e∈UN)(k:0<q):Sl R q W (Tf W) A t:=
 Sl.pk h ((j.keep i λb l=>a.block b (Tf.lt b l)).mono i (Tf.low a)) (λg m=>by
  obtain⟨d,o⟩:=iI h g m;exact⟨d,e,o,he⟩) k
theorem sZ {α:Type}{R:Rel α}(i:R.Ok){S:Bs}{u v n c:Nat}{e:TypeId}{A:Option Addr}{z c1:List Value}{C:List α}{y:α}(h:W.ownsRow v e u (A n c) n (z++c1))(k:Fl R u w (Tf w) z C)(d:Below w w W)(l:∀b,Tf w b->S b)(m:R W S c1 y)(o:c1.length=u)(q:∀b a,Bk W b e a->v<=b->S b)(r:0<u):Sl R u W S A (C++[y]):=
 Sl.pk h (((k.keep i λb s=>d.block b (Tf.lt b s)).mono i l).snoc m o) (λg j=>by
  obtain⟨a,t⟩:=iI h g j;exact q g a t (h.lt g j).1) r
theorem jC {α:Type}{R:Rel α}(one:One R){e t r:Nat}(E:mh e t r)(k:0<r){A:Option Addr}{c:Nat}{s:List α}(h:Sl R r w (Tf w) A s)(q:s.length<=100000)(b:Below w w W):
  ∃d i u v,(Builtin.append_ #[t,t] t #[.slice (W,0) 0 0,A s.length c]).run Tryz.prog (W.alloc (.cells #[] e))=.ok (.slice d s.length i) u/\u.ownsRow W.heap.size e r (.slice d s.length i) s.length v/\Fl R r w (Tf w) v s/\Below W W u:=by
 obtain⟨v,l,m,n⟩:=h.yd one k Tf.lt;obtain⟨d,i,u,a,j,o,-⟩:=wP E t (W.alloc (.cells #[] e)) W.heap.size 0 0 (W,0) [] (yQ W W.heap.size e r 0 #[] (ae _) (by simp) (by omega)) w.heap.size A s.length c v ((m.below b (ae _)).alloc b.size _) n (by omega) (by simp);simp only[mU,pG]at a j;refine⟨d,i,u,v,a,j,l,((gD W.heap.size W).alloc (ae _) (.cells #[] e)).grown o (by simp) (λg e=> ?_)⟩;simp[Value.ownBlock]at e;omega
end
def Fp.cl (p:Fp)(f:iu):List Value:=[.int .i64 f.gt,.slice p.A1 f.ga.length p.c1,.slice p.A2 f.f6.length p.c2,.slice p.A3 f.ge.length p.c3,.slice p.A4 f.a'.length p.c4,.slice p.A5 f.gM.length p.c5,.slice p.A6 f.d'.length p.c6,.slice p.A7 f.fY.length p.c7,.slice p.A8 f.gP.length p.c8]
structure TC (w W:World)(rb:Nat)(f:iu)(p:Fp)(G:Nat):Prop where
 low:Below w w W
 S:w.heap.size<rb
 box:Bk W w.heap.size gI (p.cl f).toArray
 c:Bk W rb gI i'
 gA:p.A1=(G,0)
 gG:w.heap.size<=G
 K:∃gc kD,Bk W G jb kD/\(∀(j:Nat) u,gc[j]?=some u->kD[j]?=some u)/\Fl iA 9 w (Tf w) gc f.ga
 lB:∃lc,W.ownsRow w.heap.size ja 3 (.slice p.A3 f.ge.length p.c3) f.ge.length lc/\Fl jn 3 w (Tf w) lc f.ge
 gt:gN f.gt
 f6:Sl kO 2 w (Tf w) p.A2 f.f6
 k:Sl kn 2 w (Tf w) p.A4 f.a'
 gM:Sl kI 4 w (Tf w) p.A5 f.gM
 e:Sl ko 1 w (Tf w) p.A6 f.d'
 fY:Sl kx 1 w (Tf w) p.A7 f.fY
 gP:Sl gS 1 w (Tf w) p.A8 f.gP
section
variable {w W W':World} {rb:Nat} {f:iu} {p:Fp} {G:Nat}
theorem TC.ga (h:TC w W rb f p G):Sl iA 9 W (Tf W) p.A1 f.ga:=by obtain⟨i,j,a,c,d⟩:=h.K;rw[h.gA];exact a.sl c ((d.keep iA.ok λb e=>h.low.block b (Tf.lt b e)).mono iA.ok (Tf.low h.low)) ⟨_,_,a,by decide⟩
theorem TC.looks (h:TC w W rb f p G):Sl jn 3 W (Tf W) p.A3 f.ge:=by obtain⟨c,a,b⟩:=h.lB;exact yp jn.ok a b h.low (by decide) (by decide)
theorem TC.td (h:TC w W rb f p G):TD w W rb (p.cl f) f:=⟨h.low,h.S,h.box,h.c,_,_,_,_,_,_,_,_,_,_,_,_,_,_,_,_,rfl,h.gt,h.ga,h.f6.tf kO.ok h.low,h.looks,h.k.tf kn.ok h.low,h.gM.tf kI.ok h.low,h.e.tf ko.ok h.low,h.fY.tf kx.ok h.low,h.gP.tf gS.ok h.low⟩
theorem TC.below (h:TC w W rb f p G)(a:Below W W W'):TC w W' rb f p G:=by obtain⟨c,d,b,e,i⟩:=h.K;obtain⟨j,k,l⟩:=h.lB;exact⟨h.low.trans (a.mono h.low.size),h.S,(a.block _ h.box.lt).trans h.box,(a.block _ h.c.lt).trans h.c,h.gA,h.gG,⟨c,d,(a.block _ b.lt).trans b,e,i⟩,⟨j,gj k a,l⟩,h.gt,h.f6,h.k,h.gM,h.e,h.fY,h.gP⟩
theorem Bk.ne {a b:Nat}{t d:TypeId}{cs cs':Array Value}(h:Bk W a t cs)(k:Bk W b d cs')(c:t≠d):a≠b:=λe=>by
 subst e;exact c (dw h k).1
theorem TC.z (h:TC w W rb f p G){i:Nat}(hi:i<f.ga.length):∃x L c3 I c4 K c5 b e c k d l,Hid (f.ga[i]?=some x)/\W.cell? (G,i*9+4)=some (.slice I x.gO.length c4)/\W.cell? (G,i*9+5)=some (.slice K x.gi.length c5)/\W.cell? (G,i*9+6)=some (.slice b x.gh.length e)/\W.cell? (G,i*9+7)=some (.slice c x.gx.length k)/\W.cell? (G,i*9+8)=some (.slice d x.gR.length l)/\
  iA w (Tf w) [.string ⟨x.gn.toArray⟩,.int .i64 x.gL,.bool x.i6,.slice L x.gk.length c3,.slice I x.gO.length c4,.slice K x.gi.length c5,.slice b x.gh.length e,.slice c x.gx.length k,.slice d x.gR.length l] x/\Sl gS 1 w (Tf w) I x.gO/\Sl lS 3 w (Tf w) K x.gi/\Sl mc 4 w (Tf w) b x.gh/\Sl md 4 w (Tf w) c x.gx/\Sl ky 2 w (Tf w) d x.gR:=by
 obtain⟨C,D,o,q,r⟩:=h.K;obtain⟨cs,n,E,s⟩:=r.2 i _ (jO hi);have m:=n;obtain⟨L,c3,I,c4,K,c5,b,e,c,k,d,l,rfl,F,H,t,v,y,z,A⟩:=n;have a:∀(j:Nat) u,_=some u->W.cell? ⟨G,i*9+j,none⟩=some u:=λj u B=>(o.cell _).trans (q _ _ (s j u B))
 exact⟨_,L,c3,I,c4,K,c5,b,e,c,k,d,l,jO hi,a 4 _ rfl,a 5 _ rfl,a 6 _ rfl,a 7 _ rfl,a 8 _ rfl,m,t,v,y,z,A⟩
theorem TC.look (h:TC w W rb f p G){i:Nat}(hi:i<f.ge.length):∃L x t c2,p.A3=some ⟨L,0,none⟩/\Hid (f.ge[i]?=some x)/\W.cell? ⟨L,i*3+2,none⟩=some (.slice t x.gC.length c2)/\W.cell? ⟨L,i*3,none⟩=some (.int .i64 x.gd)/\Sl lj 6 w (Tf w) t x.gC/\L<W/\(∀j,W.frozen? ⟨L,j,none⟩=false)/\w.heap.size<=L/\∃a,Bk W L ja a:=by obtain⟨q,k,l⟩:=h.lB;obtain⟨L,a,e,m,b,c⟩:=NZ k (by omega) (by decide);obtain⟨cs,n,r,d⟩:=l.2 i _ (jO hi);obtain⟨t,c2,rfl,s,o⟩:=n;exact⟨L,_,t,c2,e,jO hi,(b.cell _).trans (c _ _ (d 2 _ rfl)),(b.cell _).trans (c _ _ (d 0 _ rfl)),o,b.lt,b.frozen,m,a,b⟩
theorem TC.sC (h:TC w W rb f p G){i:Nat}{x r:hU}(d:f.ga[i]?=some x){k:Nat}(s:k<9)(v:Value)(t:∀cs,iA W (λb=>Tf W b/\b≠G) cs x->iA W (λb=>Tf W b/\b≠G) (cs.set k v) r):TD w (W.setCell (G,i*9+k) v) rb (p.cl f) {f with ga:=f.ga.set i r} :=by
 obtain⟨I,K,l,u,y⟩:=h.K;have z:=h.gG;have A:∀b,Tf w b->Tf W b/\b≠G:=λb d=>⟨Tf.low h.low b d,by have:=Tf.lt b d;omega⟩
 have B:=Sl.put (w:=W) iA.ok l u ((y.keep iA.ok λb d=>h.low.block b (Tf.lt b d)).mono iA.ok A) (λe=>e.2 rfl) d s v (λcs a _=>t cs a);have j:Below w w (W.setCell (G,i*9+k) v):=h.low.setCell (by simpa using z) _;have m:=l.set (i*9+k) v;have C:∀b,Tf W b->Tf (W.setCell (G,i*9+k) v) b:=λb d=>by
  by_cases e:b=G
  .subst e;exact⟨_,_,m,by decide⟩
  obtain⟨c,D,n,o⟩:=d;exact⟨c,D,(Below.heap_setCell W (G,i*9+k) v b e).trans n,o⟩
 obtain⟨E,F,H⟩:=h.lB;have q:(W.setCell (G,i*9+k) v).ownsRow w.heap.size ja 3 (.slice p.A3 f.ge.length p.c3) f.ge.length E:=(Sp.set l (ae G) (i*9+k) v).own F (by decide);refine⟨j,h.S,h.box.I (Bk.ne h.box l (by decide)) _,h.c.I (Bk.ne h.c l (by decide)) _,p.A1,p.c1,p.A2,p.c2,p.A3,p.c3,p.A4,p.c4,p.A5,p.c5,p.A6,p.c6,p.A7,p.c7,p.A8,p.c8,by simp[Fp.cl],h.gt,?_,h.f6.tf kO.ok j,yp jn.ok q H j (by decide) (by decide),h.k.tf kn.ok j,h.gM.tf kI.ok j,h.e.tf ko.ok j,h.fY.tf kx.ok j,h.gP.tf gS.ok j⟩;rw[h.gA];exact B.mono iA.ok λb d=>by
  rcases d with⟨d,-⟩|rfl
  .exact C b d
  exact⟨_,_,m,by decide⟩
theorem TC.nl (h:TC w W rb f p G){i L:Nat}(r:p.A3=(L,0)){x s:gH}(d:f.ge[i]?=some x){k:Nat}(y:k<3)(v:Value)(z:∀cs,jn W (λb=>Tf W b/\b≠L) cs x->jn W (λb=>Tf W b/\b≠L) (cs.set k v) s):TD w (W.setCell (L,i*3+k) v) rb (p.cl f) {f with ge:=f.ge.set i s} :=by
 obtain⟨N,A,B⟩:=h.lB;obtain⟨O,C,e,D,l,E⟩:=NZ A (by have:=(ll.1 d).1;omega) (by decide);rw[r]at e;cases e;have F:∀b,Tf w b->Tf W b/\b≠L:=λb d=>⟨Tf.low h.low b d,by have:=Tf.lt b d;omega⟩
 have H:=Sl.put (w:=W) jn.ok l E ((B.keep jn.ok λb d=>h.low.block b (Tf.lt b d)).mono jn.ok F) (λe=>e.2 rfl) d y v (λcs a _=>z cs a);have j:Below w w (W.setCell (L,i*3+k) v):=h.low.setCell (by simpa using D) _;have m:=l.set (i*3+k) v;have I:∀b,Tf W b->Tf (W.setCell (L,i*3+k) v) b:=λb d=>by
  by_cases e:b=L
  .subst e;exact⟨_,_,m,by decide⟩
  obtain⟨c,R,n,o⟩:=d;exact⟨c,R,(Below.heap_setCell W (L,i*3+k) v b e).trans n,o⟩
 obtain⟨P,Q,t,K,M⟩:=h.K;have q:G≠L:=λe=>by
  subst e;exact absurd (dw t l).1 (by decide)
 have u:=t.I (p:=(L,i*3+k)) q v;refine⟨j,h.S,h.box.I (Bk.ne h.box l (by decide)) _,h.c.I (Bk.ne h.c l (by decide)) _,p.A1,p.c1,p.A2,p.c2,p.A3,p.c3,p.A4,p.c4,p.A5,p.c5,p.A6,p.c6,p.A7,p.c7,p.A8,p.c8,by simp[Fp.cl],h.gt,?_,h.f6.tf kO.ok j,?_,h.k.tf kn.ok j,h.gM.tf kI.ok j,h.e.tf ko.ok j,h.fY.tf kx.ok j,h.gP.tf gS.ok j⟩
 .rw[h.gA];exact u.sl K ((M.keep iA.ok λb d=>j.block b (Tf.lt b d)).mono iA.ok (Tf.low j)) ⟨_,_,u,by decide⟩
 rw[r];exact H.mono jn.ok λb d=>by
  rcases d with⟨d,-⟩|rfl
  .exact I b d
  exact⟨_,_,m,by decide⟩
theorem TC.sI (h:TC w W rb f p G){i k:Nat}(hi:i<f.ga.length)(j:k<9):(∃v,W.cell? (G,i*9+k)=some v)/\W.frozen? (G,i*9+k)=false:=by
 obtain⟨l,m,a,b,c⟩:=h.K;obtain⟨cs,n,o,d⟩:=c.2 i _ (jO hi);obtain⟨u,e⟩:∃u,cs[k]?=some u:=⟨_,jO (by omega)⟩
 exact⟨⟨u,(a.cell _).trans (b _ _ (d k u e))⟩,a.frozen _⟩
theorem TC.more {α:Type}{R:Rel α}(l:R.Ok){z C n c:Nat}{e t:TypeId}{A:Option Addr}{D c1:List Value}{E:List α}{y:α}{g:Nat}{h:Array Value}(a:Below w w W)(m:Bk W g t h)(v:w.heap.size<=g)(o:W.ownsRow C e z (A n c) n (D++c1))(q:Fl R z w (Tf w) D E)(r:R W (λb=>Tf W b/\b≠g) c1 y)(s:c1.length=z)(he:e∈UN)(i:e≠t)(u:0<z):Sl R z W (λb=>Tf W b/\b≠g) A (E++[y]):=sZ l o q a (λb j=>⟨Tf.low a b j,by have:=Tf.lt b j;omega⟩) r s (λb d k _=>⟨⟨d,e,k,he⟩,Bk.ne k m i⟩) u
end
section
variable {W:World} {S:Bs} {cs:List Value} {x:hU}
theorem iA.Zs (h:iA W S cs x)(s:B):iA W S (cs.set 0 (.string s)) {x with gn:=s} :=by obtain⟨a,c3,b,c,d,e,i,j,k,l,m,n,rfl,o,q,r,t,u,v,y⟩:=h;exact⟨a,c3,b,c,d,e,i,j,k,l,m,n,rfl,o,q,r,t,u,v,y⟩
theorem iA.Z' (h:iA W S cs x)(n:Int)(a:gN n):iA W S (cs.set 1 (.int .i64 n)) {x with gL:=n} :=by obtain⟨b,c3,c,d,e,i,j,k,l,m,o,q,rfl,z,r,s,t,u,v,y⟩:=h;exact⟨b,c3,c,d,e,i,j,k,l,m,o,q,rfl,a,r,s,t,u,v,y⟩
theorem iA.Yp (h:iA W S cs x){A:Option Addr}{c n:Nat}{l:List Int}(a:Sl gS 1 W S A l)(b:l.length=n):iA W S (cs.set 4 (A n c)) {x with gO:=l} :=by subst b;obtain⟨d,c3,B,C,e,i,j,k,m,o,q,r,rfl,s,t,D,u,v,y,z⟩:=h;exact⟨d,c3,A,c,e,i,j,k,m,o,q,r,rfl,s,t,a,u,v,y,z⟩
theorem iA.XS (h:iA W S cs x){A:Option Addr}{c n:Nat}{l:List Part}(a:Sl lS 3 W S A l)(b:l.length=n):iA W S (cs.set 5 (A n c)) {x with gi:=l} :=by subst b;obtain⟨d,c3,e,i,B,C,j,k,m,o,q,r,rfl,s,t,u,D,v,y,z⟩:=h;exact⟨d,c3,e,i,A,c,j,k,m,o,q,r,rfl,s,t,u,a,v,y,z⟩
theorem iA.V3 (h:iA W S cs x){A:Option Addr}{c n:Nat}{l:List ml}(a:Sl mc 4 W S A l)(b:l.length=n):iA W S (cs.set 6 (A n c)) {x with gh:=l} :=by subst b;obtain⟨d,c3,e,i,j,k,B,C,m,o,q,r,rfl,s,t,u,v,D,y,z⟩:=h;exact⟨d,c3,e,i,j,k,A,c,m,o,q,r,rfl,s,t,u,v,a,y,z⟩
theorem iA.V4 (h:iA W S cs x){A:Option Addr}{c n:Nat}{l:List Delta}(a:Sl md 4 W S A l)(b:l.length=n):iA W S (cs.set 7 (A n c)) {x with gx:=l} :=by subst b;obtain⟨d,c3,e,i,j,k,m,o,B,C,q,r,rfl,s,t,u,v,y,D,z⟩:=h;exact⟨d,c3,e,i,j,k,m,o,A,c,q,r,rfl,s,t,u,v,y,a,z⟩
theorem iA.Ys (h:iA W S cs x){A:Option Addr}{c n:Nat}{l:List Ins}(a:Sl ky 2 W S A l)(b:l.length=n):iA W S (cs.set 8 (A n c)) {x with gR:=l} :=by subst b;obtain⟨d,c3,e,i,j,k,m,o,q,r,B,C,rfl,s,t,u,v,y,z,D⟩:=h;exact⟨d,c3,e,i,j,k,m,o,q,r,A,c,rfl,s,t,u,v,y,z,a⟩
theorem jn.Y' {x:gH}(h:jn W S cs x)(n:Int)(a:gN n):jn W S (cs.set 0 (.int .i64 n)) {x with gd:=n} :=by obtain⟨b,c2,rfl,d,c⟩:=h;exact⟨b,c2,rfl,a,c⟩
theorem jn.Bu {x:gH}(h:jn W S cs x){A:Option Addr}{c n:Nat}{l:List k'}(a:Sl lj 6 W S A l)(b:l.length=n):jn W S (cs.set 2 (A n c)) {x with gC:=l} :=by subst b;obtain⟨e,c2,rfl,d,i⟩:=h;exact⟨A,c,rfl,d,a⟩
end
section
variable {W:World} {S:Bs} {g:Nat}
theorem Cb {cs:Array Value}(c:Bk W g aK cs)(l:List Int)(a:cs.toList=aC l)(d:∀x∈l,gN x)(e:S g):Sl gS 1 W S (g,0) l:=c.sl (cells:=aC l) (λj u b=>by rw[<-a]at b;simpa using b) (jW _ _ l d) e
theorem Mc {α:Type}{R:Rel α}{size:Nat}{t:TypeId}{cs:Array Value}(a:Bk W g t cs)(x:α)(b:R W S cs.toList x)(c:cs.size=size)(d:S g):Sl R size W S (g,0) [x]:=a.sl (cells:=cs.toList) (λj u e=>by simpa using e) (Fl.one b (by simpa using c)) d
theorem R4 {α:Type}{R:Rel α}{t:TypeId}{a b:Value}(c:Bk W g t #[a,b])(x y:α)(d:R W S [a] x)(e:R W S [b] y)(h:S g):Sl R 1 W S (g,0) [x,y]:=c.sl (cells:=[a]++[b]) (λj u i=>by simpa using i) ((Fl.one d rfl).append (Fl.one e rfl)) h
end
def ki (n:Nat):Prop:=n<=100000
structure xt (g:hU):Prop where
 gn:ki g.gn.length
 h:ki g.gk.length
 gO:ki g.gO.length
 gi:ki g.gi.length
 M:ki g.gh.length
 o:ki g.gx.length
 gR:ki g.gR.length
structure pD (f:iu):Prop where
 T:mp f
 ga:ki f.ga.length
 f6:ki f.f6.length
 ge:ki f.ge.length
 k:ki f.a'.length
 gM:ki f.gM.length
 e:ki f.d'.length
 fY:ki f.fY.length
 gP:ki f.gP.length
 z:∀g∈f.ga,xt g
 look:∀l∈f.ge,ki l.gC.length
theorem ki.T {n:Nat}(h:ki n):ip n:=by unfold ki at h;unfold ip;omega
theorem ki.snoc {α:Type}{l:List α}(h:ki l.length)(y:α):ip (l++[y]).length:=by unfold ki at h;unfold ip;simp;omega
theorem xt.sw {g:hU}(h:xt g):tT g:=⟨h.gn.T,h.h.T,h.gO.T,h.gi.T,h.M.T,h.o.T,h.gR.T⟩
theorem mp.sE (h:mp u)(i:Nat){x:hU}(b:tT x):mp {u with ga:=u.ga.set i x} :=
 {h with
  ga:=by simpa using h.ga
  z:=λg a=>by
   rcases List.mem_or_eq_of_mem_set a with a|rfl
   .exact h.z g a
   exact b}
theorem mp.xv (h:mp u)(i:Nat){x:gH}(b:vy x):mp {u with ge:=u.ge.set i x} :=
 {h with
  ge:=by simpa using h.ge
  look:=λg a=>by
   rcases List.mem_or_eq_of_mem_set a with a|rfl
   .exact h.look g a
   exact b}
theorem wL {f:World}{W:TypeId}{n:Nat}{v:Value}(b:Below a a h)(c:h.ownsRow a.heap.size W e v n i)(d:h.grownBy f v.ownBlock):Below a a f:=b.grown d b.size (λg W=>(c.lt g W).1)
theorem Sb (t:TypeId)(h:(Tryz.prog.info? t).map (·.size)=some 1)(s:ByteArray)(a:Addr)(w:World):(storeVar t a (.string s)).run Tryz.prog w=(store a (.string s)).run Tryz.prog w:=by
 have b:=OA t h
 go_simp
theorem nm7 (k:Nat)(h:k<7):∃s:B,(#[.string ⟨#[]⟩,.string ⟨#[97,32,98]⟩,.string ⟨#[46,110,111,116,100,101,102]⟩,.string ⟨#[49,97]⟩,.string ⟨#[103,97]⟩,.string ⟨#[111,107,45,110,97,109,101]⟩,.string ⟨#[97,97,97,97,97,97,97,97,97,97,97,97,97,97,97,97,97]⟩]:Array Value)[k]?=some (.string s)/\s.length<=17:=by
 have:k=0\/k=1\/k=2\/k=3\/k=4\/k=5\/k=6:=by omega
 rcases this with rfl|rfl|rfl|rfl|rfl|rfl|rfl<;>exact⟨_,rfl,by decide⟩
theorem kW (f:iu)(u A2 w A4 A5 A B C:Option Addr)(c1 c2 c3 c4 c5 H I j:Nat)(i0:gN f.gt)(s1:Sl iA 9 v (Tf v) u f.ga)(s2:Sl kO 2 v (Tf v) A2 f.f6)(s3:Sl jn 3 v (Tf v) w f.ge)(s4:Sl kn 2 v (Tf v) A4 f.a')(s5:Sl kI 4 v (Tf v) A5 f.gM)(s6:Sl ko 1 v (Tf v) A f.d')(s7:Sl kx 1 v (Tf v) B f.fY)(s8:Sl gS 1 v (Tf v) C f.gP)(hS:pD f)(h0:0<f.ga.length)(K S T:Int):
  ∃(i y e k a W1:World) (G b n:Nat) (o:Option Addr),v.alloc (.cells #[.int .i64 f.gt,.slice u f.ga.length c1,.slice A2 f.f6.length c2,.slice w f.ge.length c3,.slice A4 f.a'.length c4,.slice A5 f.gM.length c5,.slice A f.d'.length H,.slice B f.fY.length I,.slice C f.gP.length j] gI)=i/\i.alloc (.cells #[.int .i64 K,.int .i64 S,.int .i64 T] xi)=y/\y.alloc (.cells #[.int .i64 0,.slice none 0 0,.slice none 0 0,.slice none 0 0,.slice none 0 0,.slice none 0 0,.slice none 0 0,.slice none 0 0,.slice none 0 0] gI)=e/\(Builtin.append_ #[24,24] 24 #[.slice (some ⟨e.heap.size,0,none⟩) 0 0,.slice u f.ga.length c1]).run Tryz.prog (e.alloc (.cells #[] jb))=.ok (.slice (some ⟨G,0,none⟩) f.ga.length b) k/\(Builtin.append_ #[26,26] 26 #[.slice (some ⟨k.heap.size,0,none⟩) 0 0,.slice w f.ge.length c3]).run Tryz.prog (k.alloc (.cells #[] ja))=.ok (.slice o f.ge.length n) a/\(e.alloc (.cells #[] jb)).cell? ⟨v.heap.size,1,none⟩=some (.slice u f.ga.length c1)/\(k.alloc (.cells #[] ja)).cell? ⟨v.heap.size,3,none⟩=some (.slice w f.ge.length c3)/\a.frozen? ⟨v.heap.size,1,none⟩=false/\a.cell? ⟨v.heap.size,1,none⟩=some (.slice u f.ga.length c1)/\(a.setCell ⟨v.heap.size,1,none⟩ (.slice (some ⟨G,0,none⟩) f.ga.length b)).frozen? ⟨v.heap.size,3,none⟩=false/\(a.setCell ⟨v.heap.size,1,none⟩ (.slice (some ⟨G,0,none⟩) f.ga.length b)).cell? ⟨v.heap.size,3,none⟩=some (.slice w f.ge.length c3)/\e.cell? ⟨i.heap.size,2,none⟩=some (.int .i64 T)/\a.cell? ⟨i.heap.size,1,none⟩=some (.int .i64 S)/\W1.cell? ⟨i.heap.size,0,none⟩=some (.int .i64 K)/\(a.setCell ⟨v.heap.size,1,none⟩ (.slice (some ⟨G,0,none⟩) f.ga.length b)).setCell ⟨v.heap.size,3,none⟩ (.slice o f.ge.length n)=W1/\Hid (TC v W1 y.heap.size f ⟨some ⟨G,0,none⟩,b,A2,c2,o,n,A4,c4,A5,c5,A,H,B,I,C,j⟩ G):=by
 obtain⟨i,U,r,V⟩:=aO v gI #[.int .i64 f.gt,.slice u f.ga.length c1,.slice A2 f.f6.length c2,.slice w f.ge.length c3,.slice A4 f.a'.length c4,.slice A5 f.gM.length c5,.slice A f.d'.length H,.slice B f.fY.length I,.slice C f.gP.length j];obtain⟨y,xN,s,X⟩:=aO i xi #[.int .i64 K,.int .i64 S,.int .i64 T];obtain⟨e,oC,t,L⟩:=aO y gI #[.int .i64 0,.slice none 0 0,.slice none 0 0,.slice none 0 0,.slice none 0 0,.slice none 0 0,.slice none 0 0,.slice none 0 0,.slice none 0 0];have z:Below v.heap.size v e:=(r.trans (s.mono r.size)).trans (t.mono (r.trans (s.mono r.size)).size);have q:Bk e v.heap.size gI #[.int .i64 f.gt,.slice u f.ga.length c1,.slice A2 f.f6.length c2,.slice w f.ge.length c3,.slice A4 f.a'.length c4,.slice A5 f.gM.length c5,.slice A f.d'.length H,.slice B f.fY.length I,.slice C f.gP.length j]:=(V.l s).l t;have Y:Bk e i.heap.size xi #[.int .i64 K,.int .i64 S,.int .i64 T]:=X.l t;have D:v.heap.size<y.heap.size:=mz V.lt s.size;have b1:=hS.ga;have b2:=hS.ge;unfold ki at b1 b2;obtain⟨Ag,b,k,gc,E,Z,aa,l⟩:=jC (W:=e) One.z Ht (by decide) s1 (c:=c1) b1 z;obtain⟨o,n,a,lc,F,ab,ac,M⟩:=jC (W:=k) One.look LQ (by decide) s3 (c:=c3) b2 (z.trans (l.mono z.size));have m:Below e.heap.size e a:=l.trans (M.mono l.size);have N:Below v.heap.size v a:=z.trans (m.mono z.size);obtain⟨G,kD,rfl,hG,ad,ak⟩:=NZ Z (by exact h0) (by decide);have al:Bk a G jb kD:=ad.l M;have xR:(e.alloc (.cells #[] jb)).cell? ⟨v.heap.size,1,none⟩=some (.slice u f.ga.length c1):=q.at ((gD _ _).alloc (ae _) _) 1 rfl;have xU:(k.alloc (.cells #[] ja)).cell? ⟨v.heap.size,3,none⟩=some (.slice w f.ge.length c3):=(q.l l).at ((gD _ _).alloc (ae _) _) 3 rfl;have xJ:=(q.l m).frozen 1;have xH:a.cell? ⟨v.heap.size,1,none⟩=some (.slice u f.ga.length c1):=q.at m 1 rfl;have xI:(a.setCell ⟨v.heap.size,1,none⟩ (.slice (some ⟨G,0,none⟩) f.ga.length b)).cell? ⟨v.heap.size,3,none⟩=some (.slice w f.ge.length c3):=(((q.l m).set 1 (.slice (some ⟨G,0,none⟩) f.ga.length b)).cell 3).trans rfl;have ao:(a.setCell ⟨v.heap.size,1,none⟩ (.slice (some ⟨G,0,none⟩) f.ga.length b)).frozen? ⟨v.heap.size,3,none⟩=_:=((q.l m).set 1 (.slice (some ⟨G,0,none⟩) f.ga.length b)).frozen 3;have j2:=Y.cell 2;have j1:=Y.at m 1 rfl;obtain⟨W1,d⟩:∃x,(a.setCell ⟨v.heap.size,1,none⟩ (.slice (some ⟨G,0,none⟩) f.ga.length b)).setCell ⟨v.heap.size,3,none⟩ (.slice o f.ge.length n)=x:=⟨_,rfl⟩
 have j0:W1.cell? ⟨i.heap.size,0,none⟩=some (.int .i64 K):=by
  have O:i.heap.size≠v.heap.size:=by have:=V.lt;omega
  rw[<-d];exact(((Y.l m).I (p:=⟨v.heap.size,1,none⟩) O _).I (p:=⟨v.heap.size,3,none⟩) O _).cell 0
 have HT:Hid (TC v W1 y.heap.size f ⟨some ⟨G,0,none⟩,b,A2,c2,o,n,A4,c4,A5,c5,A,H,B,I,C,j⟩ G):=by
  have P:G≠v.heap.size:=by have:=z.size;have:=q.lt;omega
  have zr:=L.lt;have Q:=((q.l m).set 1 (.slice (some ⟨G,0,none⟩) f.ga.length b)).set 3 (.slice o f.ge.length n)
  have ap:(a.setCell ⟨v.heap.size,1,none⟩ (.slice (some ⟨G,0,none⟩) f.ga.length b)).ownsRow k.heap.size ja 3 (.slice o f.ge.length n) f.ge.length lc:=(Sp.set (q.l m) (ae _) 1 _).own ab (by decide);have R:W1.ownsRow k.heap.size ja 3 (.slice o f.ge.length n) f.ge.length lc:=by rw[<-d];exact(Sp.set ((q.l m).set 1 _) (ae _) 3 _).own ap (by decide)
  refine⟨?_,D,?_,?_,rfl,by omega,⟨gc,kD,?_,ak,aa⟩,⟨lc,⟨R.1,?_⟩,ac⟩,i0,s2,s4,s5,s6,s7,s8⟩
  .rw[<-d];exact(N.setCell (ae _) _).setCell (ae _) _
  .rw[<-d];simpa [Fp.cl]using Q
  .rw[<-d];exact(((L.l m).I (p:=⟨v.heap.size,1,none⟩) (Nat.ne_of_gt D) _).I (p:=⟨v.heap.size,3,none⟩) (Nat.ne_of_gt D) _)
  .rw[<-d];exact(al.I (p:=⟨v.heap.size,1,none⟩) P _).I (p:=⟨v.heap.size,3,none⟩) P _
  have av:v.heap.size<=k.heap.size:=(z.trans (l.mono z.size)).size;rcases R.2 with h|⟨g,aq,ar,h1,h2,h3⟩
  .exact .inl h
  exact .inr ⟨g,aq,ar,h1,by omega,h3⟩
 exact⟨i,y,e,k,a,W1,G,b,n,o,U,xN,oC,E,F,xR,xU,xJ,xH,ao,xI,j2,j1,j0,d,HT⟩
section
attribute [-go_sem] Builtin.append_
attribute [-go_sem] storeVar
theorem Gz (f:iu)(A1 A2 A3 A4 A5 Q R S:Option Addr)(c1 c2 c3 c4 c5 c6 c7 c8:Nat)(T:gN f.gt)(s1:Sl iA 9 v (Tf v) A1 f.ga)(s2:Sl kO 2 v (Tf v) A2 f.f6)(s3:Sl jn 3 v (Tf v) A3 f.ge)(s4:Sl kn 2 v (Tf v) A4 f.a')(s5:Sl kI 4 v (Tf v) A5 f.gM)(s6:Sl ko 1 v (Tf v) Q f.d')(s7:Sl kx 1 v (Tf v) R f.fY)(s8:Sl gS 1 v (Tf v) S f.gP)(s:pD f)(U:0<f.ga.length)(c t V:Int)(hq:(c.tmod 16+16).tmod 16=0\/(c.tmod 16+16).tmod 16=1\/(c.tmod 16+16).tmod 16=2):Calls Tryz.prog 4 #[.agg #[f.gt,A1 f.ga.length c1,A2 f.f6.length c2,A3 f.ge.length c3,A4 f.a'.length c4,A5 f.gM.length c5,Q f.d'.length c6,R f.fY.length c7,S f.gP.length c8],.agg #[c,t,V]] v (ny v):=by
 obtain⟨Wf,Wq,Wr,Wg,Wl,b,G,cg,cl,Al,W,xN,oC,j,l,xR,xU,xJ,xH,X,xI,j2,j1,j0,u,a⟩:=kW v f A1 A2 A3 A4 A5 Q R S c1 c2 c3 c4 c5 c6 c7 c8 T s1 s2 s3 s4 s5 s6 s7 s8 s U c t V;have b1:=s.ga;have b2:=s.ge;unfold ki at b1 b2;have y:=J s;have vg:=bG 24 (by kernel_rfl);have vl:=bG 26 (by kernel_rfl);obtain⟨r2,z,ao,al⟩:=bJ V 100 (by omega);obtain⟨d,Y,uY⟩:=aY (r2+(100:Nat)) 100 (by omega) (by omega);obtain⟨r1,Z,ap,A⟩:=bJ t f.ga.length U;obtain⟨i,aa,n⟩:=aY (r1+f.ga.length) f.ga.length U (by omega);have hK:0<f.ge.length->∃(r:Int) (k:Nat),t.tmod (f.ge.length:Int)=r/\ -(f.ge.length:Int)<r/\r<f.ge.length/\(r+f.ge.length).tmod (f.ge.length:Int)=(k:Int)/\k<f.ge.length:=λB=>by
  obtain⟨r,ha,hb,hc⟩:=bJ t f.ge.length B;obtain⟨k,hd,he⟩:=aY (r+f.ge.length) f.ge.length B (by omega);exact⟨r,k,ha,hb,hc,hd,he⟩
 have HK:=J hK;have bn:decide ((0:Int)<(f.ga.length:Int))=true:=decide_eq_true (by omega);have lh:((100:Nat):Int)=100:=rfl;rw[lh]at z Y;clear s hK lh T s1 s2 s3 s4 s5 s6 s7 s8;obtain⟨mm,o⟩:∃m:Int,(c.tmod 16+16).tmod 16=m:=⟨_,rfl⟩
 rw[o]at hq;obtain⟨r0,ab⟩:∃r:Int,c.tmod 16=r/\ -16<r/\r<16:=bJ c 16 (by omega);obtain⟨C,A,DD⟩:=ab;rw[C]at o;go_enter Tryz.func4,Tryz.ntmps4
 go_upto_if 39 with fail
 try clear W
 try clear xN
 try clear oC
 clear xR xU j l j2 z aa Z bn;go_cut [9]from 40 to 50 (λw wx=>∃k:Nat,w=.int .i64 k/\(0<f.ge.length->k<f.ge.length)/\Wl=wx)
 case first=>
  by_cases B:0<f.ge.length
  .obtain⟨r,k,e1,e2,e3,e4,N⟩:=HK B;go_wp2_with fail
   go_meet
   exact⟨k,rfl,λ_=>N,rfl⟩
  go_wp2_with fail
  go_meet
  exact⟨0,rfl,λh=>absurd h B,rfl⟩
 case rest=>
 obtain⟨k,rfl,aq,rfl⟩:=hcut;clear HK j1
 go_upto_block 0 with fail
 try rw[u]
 clear vg vl u xJ X xH xI j0 C o;go_cut []from 60 to 374 (λwx=>∃(g:iu) (O:List Value),TD v wx Wq.heap.size O g/\mp g)
 case first=>
  obtain⟨x,D3,d3,D4,d4,D5,d5,D6,d6,D7,d7,D8,d8,hx,l4,l5,l6,l7,l8,ac,t4,t5,t6,t7,t8⟩:=a.z n;have HX:=J (y.z x (kj hx));have EC:G<b.heap.size:=by obtain⟨gc,kD,h1,-⟩:=a.K;exact h1.lt
  clear ac t4 t5 t6 t7 t8;rcases hq with rfl|rfl|rfl
  .have D:=a.td.field 0 (.int .i64 ((d:Int)*50)) (g':= {f with gt:=(d:Int)*50}) (by
    obtain⟨B1,d1,B2,d2,B3,e3,B4,e4,B5,N,B6,e6,B7,e7,B8,e8,e,T,r⟩:=a.td.D;rw[e];exact⟨B1,d1,B2,d2,B3,e3,B4,e4,B5,N,B6,e6,B7,e7,B8,e8,rfl,⟨by show _<=(d:Int)*50;omega,by show(d:Int)*50<=_;omega⟩,r⟩)
   have E:=J D;have F:Hid (mp {f with gt:=(d:Int)*50}):=J {y.T with};have p:b.frozen? (v,0)=_:=a.box.frozen 0;have zI:b.cell? (v,0)=some (.int .i64 f.gt):=a.box.cell 0;have sv:=MO 3 (by kernel_rfl);clear D;go_wp2_with fail
   go_meet
   exact⟨_,_,E,F⟩
  .obtain⟨y7,ad,ak⟩:=aY (d:Int) 7 (by omega) (by omega);rw[show((7:Nat):Int)=7 from rfl]at ad;obtain⟨H,I,ar⟩:=nm7 y7 ak;have av:(b.alloc (.cells #[.string ⟨#[]⟩,.string ⟨#[97,32,98]⟩,.string ⟨#[46,110,111,116,100,101,102]⟩,.string ⟨#[49,97]⟩,.string ⟨#[103,97]⟩,.string ⟨#[111,107,45,110,97,109,101]⟩,.string ⟨#[97,97,97,97,97,97,97,97,97,97,97,97,97,97,97,97,97]⟩] 9)).cell? (b,y7)=some (.string H):=((Bk.new b _ _).cell y7).trans I;have ay:=(gD b.heap.size b).alloc (ae _) (.cells #[.string ⟨#[]⟩,.string ⟨#[97,32,98]⟩,.string ⟨#[46,110,111,116,100,101,102]⟩,.string ⟨#[49,97]⟩,.string ⟨#[103,97]⟩,.string ⟨#[111,107,45,110,97,109,101]⟩,.string ⟨#[97,97,97,97,97,97,97,97,97,97,97,97,97,97,97,97,97]⟩] 9);obtain⟨⟨vo,zI⟩,p⟩:=(a.below ay).sI (k:=0) n (by decide);simp only[Nat.add_zero]at zI p;have E:=J ((a.sC hx (k:=0) (by decide) (.string H) (λO q=>q.Zs H)).below ((gD _ _).alloc (ae _) (.cells #[.string ⟨#[]⟩,.string ⟨#[97,32,98]⟩,.string ⟨#[46,110,111,116,100,101,102]⟩,.string ⟨#[49,97]⟩,.string ⟨#[103,97]⟩,.string ⟨#[111,107,45,110,97,109,101]⟩,.string ⟨#[97,97,97,97,97,97,97,97,97,97,97,97,97,97,97,97,97]⟩] 9)));have F:=J (y.T.sE i (x:= {x with gn:=H}) {HX.sw with gn:=by show H.length<=_;omega});have sv:=Sb 9 (by kernel_rfl);clear ay I l4 l5 l6 l7 l8;go_wp2_with fail
   go_meet
   exact⟨_,_,E,F⟩
  obtain⟨⟨vo,zI⟩,p⟩:=a.sI (k:=1) n (by decide);have E:=J (a.sC hx (k:=1) (by decide) (.int .i64 (((d:Int) - 10)*300)) (λO q=>q.Z' _ ⟨by omega,by omega⟩));have sv:=MO 3 (by kernel_rfl);have F:=J (y.T.sE i (x:= {x with gL:=((d:Int) - 10)*300}) {HX.sw with});clear l4 l5 l6 l7 l8;go_wp2_with fail
  go_meet
  exact⟨_,_,E,F⟩
 case rest=>
 obtain⟨g,O,P,hB⟩:=hcut;obtain⟨aw,K,L,M⟩:=P.fin hB;have eX:=J K;have rO:=J L;have xC:=J M;have gV:=J P.box;obtain⟨B1,e1,B2,e2,B3,e3,B4,e4,B5,N,B6,e6,B7,e7,B8,e8,rfl,-⟩:=P.D;obtain⟨k0,k1,k2,k3,k4,k5,k6,k7,k8⟩:=nine gV (gD _ _);clear K L M P hB a y;go_wp2_with fail
 exact bodyPost_ret (iV eX rO) rfl xC
theorem GG (f:iu)(A1 A2 A3 A4 A5 A6 A7 A8:Option Addr)(c1 c2 c3 c4 c5 c6 c7 c8:Nat)(i0:gN f.gt)(s1:Sl iA 9 v (Tf v) A1 f.ga)(s2:Sl kO 2 v (Tf v) A2 f.f6)(s3:Sl jn 3 v (Tf v) A3 f.ge)(s4:Sl kn 2 v (Tf v) A4 f.a')(s5:Sl kI 4 v (Tf v) A5 f.gM)(s6:Sl ko 1 v (Tf v) A6 f.d')(s7:Sl kx 1 v (Tf v) A7 f.fY)(s8:Sl gS 1 v (Tf v) A8 f.gP)(L:pD f)(h0:0<f.ga.length)(C M q2:Int)(hq:(C.tmod 16+16).tmod 16=3\/(C.tmod 16+16).tmod 16=4\/(C.tmod 16+16).tmod 16=5):Calls Tryz.prog 4 #[.agg #[f.gt,A1 f.ga.length c1,A2 f.f6.length c2,A3 f.ge.length c3,A4 f.a'.length c4,A5 f.gM.length c5,A6 f.d'.length c6,A7 f.fY.length c7,A8 f.gP.length c8],.agg #[C,M,q2]] v (ny v):=by
 obtain⟨Wf,Wq,Wr,Wg,Wl,b,G,cg,cl,Al,al,xN,oC,H,I,xR,xU,xJ,xH,ao,xI,j2,j1,j0,N,D⟩:=kW v f A1 A2 A3 A4 A5 A6 A7 A8 c1 c2 c3 c4 c5 c6 c7 c8 i0 s1 s2 s3 s4 s5 s6 s7 s8 L h0 C M q2;have b1:=L.ga;have b2:=L.ge;unfold ki at b1 b2;have O:=J L;have vg:=bG 24 (by kernel_rfl);have vl:=bG 26 (by kernel_rfl);obtain⟨r2,P,aD,ay⟩:=bJ q2 100 (by omega);obtain⟨q,ap,uY⟩:=aY (r2+(100:Nat)) 100 (by omega) (by omega);obtain⟨r1,aq,aE,Q⟩:=bJ M f.ga.length h0;obtain⟨i,ar,A⟩:=aY (r1+f.ga.length) f.ga.length h0 (by omega);have hK:0<f.ge.length->∃(r:Int) (k:Nat),M.tmod (f.ge.length:Int)=r/\ -(f.ge.length:Int)<r/\r<f.ge.length/\(r+f.ge.length).tmod (f.ge.length:Int)=(k:Int)/\k<f.ge.length:=λR=>by
  obtain⟨r,ha,hb,hc⟩:=bJ M f.ge.length R;obtain⟨k,hd,he⟩:=aY (r+f.ge.length) f.ge.length R (by omega);exact⟨r,k,ha,hb,hc,hd,he⟩
 have HK:=J hK;have bn:decide ((0:Int)<(f.ga.length:Int))=true:=decide_eq_true (by omega);have lh:((100:Nat):Int)=100:=rfl;rw[lh]at P ap;clear L hK lh i0 s1 s2 s3 s4 s5 s6 s7 s8;obtain⟨mm,aN⟩:∃m:Int,(C.tmod 16+16).tmod 16=m:=⟨_,rfl⟩
 rw[aN]at hq;obtain⟨r0,av⟩:∃r:Int,C.tmod 16=r/\ -16<r/\r<16:=bJ C 16 (by omega);obtain⟨S,Q,DD⟩:=av;rw[S]at aN;go_enter Tryz.func4,Tryz.ntmps4
 go_upto_if 39 with fail
 try clear al
 try clear xN
 try clear oC
 clear xR xU H I j2 P ar aq bn;go_cut [9]from 40 to 50 (λw wx=>∃k:Nat,w=.int .i64 k/\(0<f.ge.length->k<f.ge.length)/\Wl=wx)
 case first=>
  by_cases R:0<f.ge.length
  .obtain⟨r,k,e1,e2,e3,e4,e5⟩:=HK R;go_wp2_with fail
   go_meet
   exact⟨k,rfl,λ_=>e5,rfl⟩
  go_wp2_with fail
  go_meet
  exact⟨0,rfl,λh=>absurd h R,rfl⟩
 case rest=>
 obtain⟨k,rfl,aL,rfl⟩:=hcut;clear HK j1
 go_upto_block 0 with fail
 try rw[N]
 clear vg vl N xJ ao xH xI j0 S aN;go_cut []from 60 to 374 (λwx=>∃(g:iu) (T:List Value),TD v wx Wq.heap.size T g/\mp g)
 case first=>
  have qQ:Hid (Below v v b):=J D.low;obtain⟨x,D3,d3,D4,d4,D5,d5,D6,d6,D7,d7,D8,d8,hx,l4,l5,l6,l7,l8,aw,t4,t5,t6,t7,t8⟩:=D.z A;have B:=J (O.z x (kj hx));have EC:G<b.heap.size:=by obtain⟨gc,kD,K,-⟩:=D.K;exact K.lt
  have T4:=J t4;have T5:=J t5;have T6:=J t6;clear aw t4 t5 t6 t7 t8;rcases hq with rfl|rfl|rfl
  .have a:=B.gO;unfold ki at a;obtain⟨U,V,X,Y,E,s,j,d⟩:=jC (W:=b) One.int iw (by decide) T4 (c:=d4) a qQ;obtain⟨Z,cq,W4,t,F,l,-⟩:=dJ iw 22 X b.heap.size _ V U Y #[.int .i64 ((q:Int) - 2)] rfl s (by simp[Value.oneCell']) (by omega) d.size;have n:Below b b W4:=wL d s l;have e:=D.below n;have aa:(b.alloc (.cells #[] aK)).cell? (G,i*9+4)=some (D4 x.gO.length d4):=((aj ((gD b.heap.size b).alloc (ae _) _)).1 _ _ EC).trans l4;obtain⟨⟨vo,zI⟩,ab⟩:=e.sI (k:=4) A (by decide);have o:=e.sC hx (k:=4) (by decide) (Z (x.gO.length+1) cq) (λT u=>u.Yp (by obtain⟨gc,kD,K,-⟩:=e.K;exact TC.more gS.ok e.low K e.gG F j (y:=((q:Int) - 2)) ⟨rfl,by omega,by omega⟩ rfl (by decide) (by decide) (by decide)) (by simp));have p:=O.T.sE i (x:= {x with gO:=x.gO++[((q:Int) - 2)]}) {B.sw with gO:=B.gO.snoc _};have jq:=J o;have jR:=J p;have sv:=bG 22 (by kernel_rfl);clear s j F l o p e d n l4 l5 l6 l7 l8;go_wp2_with fail
   go_meet
   exact⟨_,_,jq,jR⟩
  .obtain⟨y,ye,yl⟩:=aY (q:Int) 12 (by omega) (by omega);rw[show((12:Nat):Int)=12 from rfl]at ye;have a:=B.gi;unfold ki at a;obtain⟨U,V,X,Y,E,s,j,d⟩:=jC (W:=b) One.part LU (by decide) T5 (c:=d5) a qQ;obtain⟨Z,cq,W4,t,F,l,-⟩:=dJ LU 47 X b.heap.size _ V U Y #[.int .i64 ((y:Int) - 1),.int .i64 ((q:Int)*200),.int .i64 0] rfl s (by simp[Value.oneCell']) (by omega) d.size;have n:Below b b W4:=wL d s l;have e:=D.below n;have aa:(b.alloc (.cells #[] xu)).cell? (G,i*9+5)=some (D5 x.gi.length d5):=((aj ((gD b.heap.size b).alloc (ae _) _)).1 _ _ EC).trans l5;obtain⟨⟨vo,zI⟩,ab⟩:=e.sI (k:=5) A (by decide);have o:=e.sC hx (k:=5) (by decide) (Z (x.gi.length+1) cq) (λT u=>u.XS (by obtain⟨gc,kD,K,-⟩:=e.K;exact TC.more lS.ok e.low K e.gG F j (y:=(⟨(y:Int) - 1,(q:Int)*200,0⟩:Part)) ⟨rfl,⟨by show _<=(y:Int) - 1;omega,by show(y:Int) - 1<=_;omega⟩,⟨by show _<=(q:Int)*200;omega,by show(q:Int)*200<=_;omega⟩,⟨by show(_:Int)<=0;omega,by show(0:Int)<=_;omega⟩⟩ rfl (by decide) (by decide) (by decide)) (by simp));have p:=O.T.sE i (x:= {x with gi:=x.gi++[(⟨(y:Int) - 1,(q:Int)*200,0⟩:Part)]}) {B.sw with gi:=B.gi.snoc _};have jq:=J o;have jR:=J p;have sv:=bG 47 (by kernel_rfl);clear s j F l o p e d n l4 l5 l6 l7 l8;go_wp2_with fail
   go_meet
   exact⟨_,_,jq,jR⟩
  obtain⟨y,ye,yl⟩:=aY (q:Int) 6 (by omega) (by omega);rw[show((6:Nat):Int)=6 from rfl]at ye;obtain⟨z,ze,zl⟩:=aY (q:Int) 5 (by omega) (by omega);rw[show((5:Nat):Int)=5 from rfl]at ze;have a:=B.M;unfold ki at a;obtain⟨U,V,X,Y,E,s,j,d⟩:=jC (W:=b) One.M LH (by decide) T6 (c:=d6) a qQ;obtain⟨Z,cq,W4,t,F,l,-⟩:=dJ LH 48 X b.heap.size _ V U Y #[.int .i64 (y:Int),.int .i64 ((z:Int) - 1),.int .i64 (q:Int),.int .i64 0] rfl s (by simp[Value.oneCell']) (by omega) d.size;have n:Below b b W4:=wL d s l;have e:=D.below n;have aa:(b.alloc (.cells #[] xg)).cell? (G,i*9+6)=some (D6 x.gh.length d6):=((aj ((gD b.heap.size b).alloc (ae _) _)).1 _ _ EC).trans l6;obtain⟨⟨vo,zI⟩,ab⟩:=e.sI (k:=6) A (by decide);have o:=e.sC hx (k:=6) (by decide) (Z (x.gh.length+1) cq) (λT u=>u.V3 (by obtain⟨gc,kD,K,-⟩:=e.K;exact TC.more mc.ok e.low K e.gG F j (y:=(⟨(y:Int),(z:Int) - 1,(q:Int),0⟩:ml)) ⟨rfl,⟨by show _<=(y:Int);omega,by show(y:Int)<=_;omega⟩,⟨by show _<=(z:Int) - 1;omega,by show(z:Int) - 1<=_;omega⟩,⟨by show _<=(q:Int);omega,by show(q:Int)<=_;omega⟩,⟨by show(_:Int)<=0;omega,by show(0:Int)<=_;omega⟩⟩ rfl (by decide) (by decide) (by decide)) (by simp));have p:=O.T.sE i (x:= {x with gh:=x.gh++[(⟨(y:Int),(z:Int) - 1,(q:Int),0⟩:ml)]}) {B.sw with M:=B.M.snoc _};have jq:=J o;have jR:=J p;have sv:=bG 48 (by kernel_rfl);clear s j F l o p e d n l4 l5 l6 l7 l8;go_wp2_with fail
  go_meet
  exact⟨_,_,jq,jR⟩
 case rest=>
 obtain⟨g,T,hT,hB⟩:=hcut;obtain⟨aM,ac,ad,ak⟩:=hT.fin hB;have eX:=J ac;have rO:=J ad;have xC:=J ak;have gV:=J hT.box;obtain⟨B1,e1,B2,e2,B3,e3,B4,e4,B5,e5,B6,e6,B7,e7,B8,e8,rfl,-⟩:=hT.D;obtain⟨k0,k1,k2,k3,k4,k5,k6,k7,k8⟩:=nine gV (gD _ _);clear ac ad ak hT hB D O;go_wp2_with fail
 exact bodyPost_ret (iV eX rO) rfl xC
theorem GH (f:iu)(A1 A2 A3 A4 A5 A6 A7 A8:Option Addr)(c1 c2 c3 c4 c5 c6 c7 c8:Nat)(i0:gN f.gt)(s1:Sl iA 9 v (Tf v) A1 f.ga)(s2:Sl kO 2 v (Tf v) A2 f.f6)(s3:Sl jn 3 v (Tf v) A3 f.ge)(s4:Sl kn 2 v (Tf v) A4 f.a')(s5:Sl kI 4 v (Tf v) A5 f.gM)(s6:Sl ko 1 v (Tf v) A6 f.d')(s7:Sl kx 1 v (Tf v) A7 f.fY)(s8:Sl gS 1 v (Tf v) A8 f.gP)(R:pD f)(h0:0<f.ga.length)(D S q2:Int)(hq:(D.tmod 16+16).tmod 16=6\/(D.tmod 16+16).tmod 16=7\/(D.tmod 16+16).tmod 16=8):Calls Tryz.prog 4 #[.agg #[f.gt,A1 f.ga.length c1,A2 f.f6.length c2,A3 f.ge.length c3,A4 f.a'.length c4,A5 f.gM.length c5,A6 f.d'.length c6,A7 f.fY.length c7,A8 f.gP.length c8],.agg #[D,S,q2]] v (ny v):=by
 obtain⟨Wf,Wq,Wr,Wg,Wl,j,G,cg,cl,Al,al,xN,oC,H,I,xR,xU,xJ,xH,ao,xI,j2,j1,j0,T,C⟩:=kW v f A1 A2 A3 A4 A5 A6 A7 A8 c1 c2 c3 c4 c5 c6 c7 c8 i0 s1 s2 s3 s4 s5 s6 s7 s8 R h0 D S q2;have b1:=R.ga;have b2:=R.ge;unfold ki at b1 b2;have aQ:=J R;have vg:=bG 24 (by kernel_rfl);have vl:=bG 26 (by kernel_rfl);obtain⟨r2,U,aE,aD⟩:=bJ q2 100 (by omega);obtain⟨l,ap,uY⟩:=aY (r2+(100:Nat)) 100 (by omega) (by omega);obtain⟨r1,aq,aL,V⟩:=bJ S f.ga.length h0;obtain⟨i,ar,K⟩:=aY (r1+f.ga.length) f.ga.length h0 (by omega);have hK:0<f.ge.length->∃(r:Int) (k:Nat),S.tmod (f.ge.length:Int)=r/\ -(f.ge.length:Int)<r/\r<f.ge.length/\(r+f.ge.length).tmod (f.ge.length:Int)=(k:Int)/\k<f.ge.length:=λX=>by
  obtain⟨r,ha,hb,hc⟩:=bJ S f.ge.length X;obtain⟨k,hd,he⟩:=aY (r+f.ge.length) f.ge.length X (by omega);exact⟨r,k,ha,hb,hc,hd,he⟩
 have HK:=J hK;have bn:decide ((0:Int)<(f.ga.length:Int))=true:=decide_eq_true (by omega);have lh:((100:Nat):Int)=100:=rfl;rw[lh]at U ap;clear R hK lh i0 s1 s2 s3 s4 s5 s6 s7 s8;obtain⟨mm,L⟩:∃m:Int,(D.tmod 16+16).tmod 16=m:=⟨_,rfl⟩
 rw[L]at hq;obtain⟨r0,av⟩:∃r:Int,D.tmod 16=r/\ -16<r/\r<16:=bJ D 16 (by omega);obtain⟨Y,V,DD⟩:=av;rw[Y]at L;go_enter Tryz.func4,Tryz.ntmps4
 go_upto_if 39 with fail
 try clear al
 try clear xN
 try clear oC
 clear xR xU H I j2 U ar aq bn;go_cut [9]from 40 to 50 (λw wx=>∃k:Nat,w=.int .i64 k/\(0<f.ge.length->k<f.ge.length)/\Wl=wx)
 case first=>
  by_cases X:0<f.ge.length
  .obtain⟨r,k,e1,e2,e3,e4,e5⟩:=HK X;go_wp2_with fail
   go_meet
   exact⟨k,rfl,λ_=>e5,rfl⟩
  go_wp2_with fail
  go_meet
  exact⟨0,rfl,λh=>absurd h X,rfl⟩
 case rest=>
 obtain⟨k,rfl,aM,rfl⟩:=hcut;clear HK j1
 go_upto_block 0 with fail
 try rw[T]
 clear vg vl T xJ ao xH xI j0 Y L;go_cut []from 60 to 374 (λwx=>∃(g:iu) (cs:List Value),TD v wx Wq.heap.size cs g/\mp g)
 case first=>
  have qQ:Hid (Below v v j):=J C.low;obtain⟨x,D3,d3,D4,d4,D5,d5,D6,d6,D7,d7,D8,d8,hx,l4,l5,l6,l7,l8,aw,t4,t5,t6,t7,t8⟩:=C.z K;have O:=J (aQ.z x (kj hx));have EC:G<j.heap.size:=by obtain⟨gc,kD,Z,-⟩:=C.K;exact Z.lt
  have T7:=J t7;have T8:=J t8;clear aw t4 t5 t6 t7 t8;rcases hq with rfl|rfl|rfl
  .obtain⟨y,ye,yl⟩:=aY (l:Int) 4 (by omega) (by omega);rw[show((4:Nat):Int)=4 from rfl]at ye;obtain⟨z,ze,zl⟩:=aY (l:Int) 7 (by omega) (by omega);rw[show((7:Nat):Int)=7 from rfl]at ze;obtain⟨u,ue,ul⟩:=aY (l:Int) 2 (by omega) (by omega);rw[show((2:Nat):Int)=2 from rfl]at ue;have a:=O.o;unfold ki at a;obtain⟨Ap,cp,W2,c0,E,t,o,d⟩:=jC (W:=j) One.asg Hl (by decide) T7 (c:=d7) a qQ;obtain⟨P,Q,M,A,F,p,-⟩:=dJ Hl 49 W2 j.heap.size _ cp Ap c0 #[.int .i64 ((y:Int) - 1),.int .i64 ((z:Int) - 2),.int .i64 (l:Int),.int .i64 (u:Int)] rfl t (by simp[Value.oneCell']) (by omega) d.size;have q:Below j j M:=wL d t p;have n:=C.below q;have aa:(j.alloc (.cells #[] oQ)).cell? (G,i*9+7)=some (D7 x.gx.length d7):=((aj ((gD j.heap.size j).alloc (ae _) _)).1 _ _ EC).trans l7;obtain⟨⟨vo,zI⟩,ab⟩:=n.sI (k:=7) K (by decide);have s:=n.sC hx (k:=7) (by decide) (P (x.gx.length+1) Q) (λcs N=>N.V4 (by obtain⟨gc,kD,Z,-⟩:=n.K;exact TC.more md.ok n.low Z n.gG F o (y:=(⟨(y:Int) - 1,(z:Int) - 2,(l:Int),(u:Int)⟩:Delta)) ⟨rfl,⟨by show _<=(y:Int) - 1;omega,by show(y:Int) - 1<=_;omega⟩,⟨by show _<=(z:Int) - 2;omega,by show(z:Int) - 2<=_;omega⟩,⟨by show _<=(l:Int);omega,by show(l:Int)<=_;omega⟩,⟨by show _<=(u:Int);omega,by show(u:Int)<=_;omega⟩⟩ rfl (by decide) (by decide) (by decide)) (by simp));have B:=aQ.T.sE i (x:= {x with gx:=x.gx++[(⟨(y:Int) - 1,(z:Int) - 2,(l:Int),(u:Int)⟩:Delta)]}) {O.sw with o:=O.o.snoc _};have jq:=J s;have jR:=J B;have sv:=bG 49 (by kernel_rfl);clear t o F p s B n d q l4 l5 l6 l7 l8;go_wp2_with fail
   go_meet
   exact⟨_,_,jq,jR⟩
  .obtain⟨y,ye,yl⟩:=aY (l:Int) 42 (by omega) (by omega);rw[show((42:Nat):Int)=42 from rfl]at ye;have a:=O.gR;unfold ki at a;obtain⟨Ap,cp,W2,c0,E,t,o,d⟩:=jC (W:=j) One.ins AC (by decide) T8 (c:=d8) a qQ;obtain⟨P,Q,M,A,F,p,-⟩:=dJ AC 50 W2 j.heap.size _ cp Ap c0 #[.int .i64 (y:Int),.int .i64 (l:Int)] rfl t (by simp[Value.oneCell']) (by omega) d.size;have q:Below j j M:=wL d t p;have n:=C.below q;have aa:(j.alloc (.cells #[] qj)).cell? (G,i*9+8)=some (D8 x.gR.length d8):=((aj ((gD j.heap.size j).alloc (ae _) _)).1 _ _ EC).trans l8;obtain⟨⟨vo,zI⟩,ab⟩:=n.sI (k:=8) K (by decide);have s:=n.sC hx (k:=8) (by decide) (P (x.gR.length+1) Q) (λcs N=>N.Ys (by obtain⟨gc,kD,Z,-⟩:=n.K;exact TC.more ky.ok n.low Z n.gG F o (y:=(⟨(y:Int),(l:Int)⟩:Ins)) ⟨rfl,⟨by show _<=(y:Int);omega,by show(y:Int)<=_;omega⟩,⟨by show _<=(l:Int);omega,by show(l:Int)<=_;omega⟩⟩ rfl (by decide) (by decide) (by decide)) (by simp));have B:=aQ.T.sE i (x:= {x with gR:=x.gR++[(⟨(y:Int),(l:Int)⟩:Ins)]}) {O.sw with gR:=O.gR.snoc _};have jq:=J s;have jR:=J B;have sv:=bG 50 (by kernel_rfl);clear t o F p s B n d q l4 l5 l6 l7 l8;go_wp2_with fail
   go_meet
   exact⟨_,_,jq,jR⟩
  obtain⟨y,ye,yl⟩:=aY (l:Int) 14 (by omega) (by omega);rw[show((14:Nat):Int)=14 from rfl]at ye;have a:=aQ.f6;unfold ki at a;obtain⟨Ap,cp,W2,c0,E,t,o,d⟩:=jC (W:=j) One.Y LK (by decide) C.f6 (c:=c2) a qQ;have aa:(j.alloc (.cells #[] UK)).cell? (v,2)=some (A2 f.f6.length c2):=C.box.at ((gD _ _).alloc (ae _) _) 2 rfl;obtain⟨P,Q,M,A,F,p,-⟩:=dJ LK 25 W2 j.heap.size _ cp Ap c0 #[.int .i64 ((l:Int)*12000),.int .i64 ((y:Int) - 1)] rfl t (by simp[Value.oneCell']) (by omega) d.size;have q:Below j j M:=wL d t p;have n:=C.below q;have ab:M.frozen? (v,2)=_:=n.box.frozen 2;have zI:M.cell? (v,2)=some (A2 f.f6.length c2):=n.box.cell 2;have s:=n.td.field 2 (P (f.f6.length+1) Q) (g':= {f with f6:=f.f6++[(⟨(l:Int)*12000,(y:Int) - 1⟩:nD)]}) (by
   have hs:=sZ kO.ok F o n.low (Tf.low n.low) (y:=(⟨(l:Int)*12000,(y:Int) - 1⟩:nD)) ⟨rfl,⟨by show _<=(l:Int)*12000;omega,by show(l:Int)*12000<=_;omega⟩,⟨by show _<=(y:Int) - 1;omega,by show(y:Int) - 1<=_;omega⟩⟩ rfl (λb ay hk _=>⟨ay,_,hk,by decide⟩) (by decide);obtain⟨B1,e1,B2,e2,B3,e3,B4,e4,B5,e5,B6,e6,B7,e7,B8,e8,e,i0,n1,n2,n3,n4,n5,n6,n7,n8⟩:=n.td.D;rw[e];exact⟨B1,e1,P,Q,B3,e3,B4,e4,B5,e5,B6,e6,B7,e7,B8,e8,by simp,i0,n1,hs,n3,n4,n5,n6,n7,n8⟩)
  have jq:=J s;have jR:Hid (mp {f with f6:=f.f6++[(⟨(l:Int)*12000,(y:Int) - 1⟩:nD)]}):=J {aQ.T with f6:=aQ.f6.snoc _};have sv:=bG 25 (by kernel_rfl);clear t o F p s n d q l4 l5 l6 l7 l8;go_wp2_with fail
  go_meet
  exact⟨_,_,jq,jR⟩
 case rest=>
 obtain⟨g,cs,hT,hB⟩:=hcut;obtain⟨aN,ac,ad,ak⟩:=hT.fin hB;have eX:=J ac;have rO:=J ad;have xC:=J ak;have gV:=J hT.box;obtain⟨B1,e1,B2,e2,B3,e3,B4,e4,B5,e5,B6,e6,B7,e7,B8,e8,rfl,-⟩:=hT.D;obtain⟨k0,k1,k2,k3,k4,k5,k6,k7,k8⟩:=nine gV (gD _ _);clear ac ad ak hT hB C aQ;go_wp2_with fail
 exact bodyPost_ret (iV eX rO) rfl xC
theorem PX (f:iu)(A1 A2 A3 A4 A5 A6 A7 A8:Option Addr)(c1 c2 c3 c4 c5 c6 c7 c8:Nat)(i0:gN f.gt)(s1:Sl iA 9 v (Tf v) A1 f.ga)(s2:Sl kO 2 v (Tf v) A2 f.f6)(s3:Sl jn 3 v (Tf v) A3 f.ge)(s4:Sl kn 2 v (Tf v) A4 f.a')(s5:Sl kI 4 v (Tf v) A5 f.gM)(s6:Sl ko 1 v (Tf v) A6 f.d')(s7:Sl kx 1 v (Tf v) A7 f.fY)(s8:Sl gS 1 v (Tf v) A8 f.gP)(Z:pD f)(h0:0<f.ga.length)(F q1 q2:Int)(hq:(F.tmod 16+16).tmod 16=9\/(F.tmod 16+16).tmod 16=10):Calls Tryz.prog 4 #[.agg #[f.gt,A1 f.ga.length c1,A2 f.f6.length c2,A3 f.ge.length c3,A4 f.a'.length c4,A5 f.gM.length c5,A6 f.d'.length c6,A7 f.fY.length c7,A8 f.gP.length c8],.agg #[F,q1,q2]] v (ny v):=by
 obtain⟨Wf,Wq,Wr,Wg,Wl,n,G,cg,cl,Al,aD,xN,oC,H,I,xR,xU,xJ,xH,aE,xI,j2,j1,j0,aa,a⟩:=kW v f A1 A2 A3 A4 A5 A6 A7 A8 c1 c2 c3 c4 c5 c6 c7 c8 i0 s1 s2 s3 s4 s5 s6 s7 s8 Z h0 F q1 q2;have b1:=Z.ga;have b2:=Z.ge;unfold ki at b1 b2;have p:=J Z;have vg:=bG 24 (by kernel_rfl);have vl:=bG 26 (by kernel_rfl);obtain⟨r2,ab,ba,a8⟩:=bJ q2 100 (by omega);obtain⟨nn,aL,uY⟩:=aY (r2+(100:Nat)) 100 (by omega) (by omega);obtain⟨r1,aM,bb,ac⟩:=bJ q1 f.ga.length h0;obtain⟨i,aN,aQ⟩:=aY (r1+f.ga.length) f.ga.length h0 (by omega);have hK:0<f.ge.length->∃(r:Int) (k:Nat),q1.tmod (f.ge.length:Int)=r/\ -(f.ge.length:Int)<r/\r<f.ge.length/\(r+f.ge.length).tmod (f.ge.length:Int)=(k:Int)/\k<f.ge.length:=λq=>by
  obtain⟨r,ha,hb,hc⟩:=bJ q1 f.ge.length q;obtain⟨k,hd,he⟩:=aY (r+f.ge.length) f.ge.length q (by omega);exact⟨r,k,ha,hb,hc,hd,he⟩
 have HK:=J hK;have bn:decide ((0:Int)<(f.ga.length:Int))=true:=decide_eq_true (by omega);have lh:((100:Nat):Int)=100:=rfl;rw[lh]at ab aL;clear Z hK lh i0 s1 s2 s3 s4 s5 s6 s7 s8;obtain⟨mm,bo⟩:∃m:Int,(F.tmod 16+16).tmod 16=m:=⟨_,rfl⟩
 rw[bo]at hq;obtain⟨r0,aR⟩:∃r:Int,F.tmod 16=r/\ -16<r/\r<16:=bJ F 16 (by omega);obtain⟨ad,ac,DD⟩:=aR;rw[ad]at bo;go_enter Tryz.func4,Tryz.ntmps4
 go_upto_if 39 with fail
 try clear aD
 try clear xN
 try clear oC
 clear xR xU H I j2 ab aN aM bn;go_cut [9]from 40 to 50 (λw wx=>∃k:Nat,w=.int .i64 k/\(0<f.ge.length->k<f.ge.length)/\Wl=wx)
 case first=>
  by_cases q:0<f.ge.length
  .obtain⟨r,k,e1,V,e3,e4,e5⟩:=HK q;have bp:decide ((0:Int)<(f.ge.length:Int))=true:=decide_eq_true (by omega);go_wp2_with fail
   go_meet
   exact⟨k,rfl,λ_=>e5,rfl⟩
  have bp:decide ((0:Int)<(f.ge.length:Int))=false:=decide_eq_false (by omega);go_wp2_with fail
  go_meet
  exact⟨0,rfl,λh=>absurd h q,rfl⟩
 case rest=>
 obtain⟨k,rfl,ak,rfl⟩:=hcut;clear HK j1
 go_upto_block 0 with fail
 try rw[aa]
 clear vg vl aa xJ aE xH xI j0 ad bo;go_cut []from 60 to 374 (λwx=>∃(g:iu) (D:List Value),TD v wx Wq.heap.size D g/\mp g)
 case first=>
  have FW:=a.low.size;have qQ:Hid (Below v v n):=J a.low;obtain⟨x,D3,d3,D4,d4,D5,d5,D6,d6,D7,d7,D8,d8,K,l4,l5,l6,l7,l8,aW,t4,t5,t6,t7,t8⟩:=a.z aQ;have HX:=J (p.z x (kj K));have EC:G<n.heap.size:=by obtain⟨gc,kD,h1,-⟩:=a.K;exact h1.lt
  have T4:=J t4;have T5:=J t5;have T6:=J t6;have T7:=J t7;have T8:=J t8;have bn:decide ((0:Int)<(f.ga.length:Int))=true:=decide_eq_true (by omega);clear aW t4 t5 t6 t7 t8;rcases hq with rfl|rfl
  .obtain⟨w,ve,vl⟩:=aY (nn:Int) 10 (by omega) (by omega);rw[show((10:Nat):Int)=10 from rfl]at ve;by_cases q:0<f.ge.length
   .have bp:decide ((0:Int)<(f.ge.length:Int))=true:=decide_eq_true (by omega);have d:=ak q;obtain⟨L,y,B2,V,hA,X,u2,u0,u3,Wv,u,al,a0,z⟩:=a.look d;simp only at hA;subst hA;have HY:=J (p.T.look y (kj X));have a1:=u (k*3);have M:=J (a.nl rfl X (k:=0) (by decide) (.int .i64 (w:Int)) (λD N=>N.Y' _ ⟨by omega,by omega⟩));have jR:=J (p.T.xv k (x:= {y with gd:=(w:Int)}) {HY with});have sv:=MO 3 (by kernel_rfl);clear u2 u3 z u l4 l5 l6 l7 l8;go_wp2_with fail
    go_meet
    exact⟨_,_,M,jR⟩
   have bp:decide ((0:Int)<(f.ge.length:Int))=false:=decide_eq_false (by omega);have M:=J a.td;clear l4 l5 l6 l7 l8;go_wp2_with fail
   go_meet
   exact⟨_,_,M,p.T⟩
  obtain⟨O,a2,bc⟩:=aY (nn:Int) 5 (by omega) (by omega);rw[show((5:Nat):Int)=5 from rfl]at a2;obtain⟨P,a3,bd⟩:=aY (nn:Int) 7 (by omega) (by omega);rw[show((7:Nat):Int)=7 from rfl]at a3;obtain⟨Y,a4,bf⟩:=aY (nn:Int) 6 (by omega) (by omega);rw[show((6:Nat):Int)=6 from rfl]at a4;obtain⟨E,a5,bg⟩:=aY (nn:Int) 2 (by omega) (by omega);rw[show((2:Nat):Int)=2 from rfl]at a5;by_cases q:0<f.ge.length
  .have bp:decide ((0:Int)<(f.ge.length:Int))=true:=decide_eq_true (by omega);have d:=ak q;obtain⟨L,y,B2,V,hA,X,u2,u0,u3,Wv,u,al,a0,z⟩:=a.look d;simp only at hA;subst hA;have HY:=J (p.T.look y (kj X));have e:=p.look y (kj X);unfold ki at e;obtain⟨Ap,cp,W2,c0,a9,ho,ao,Q⟩:=jC (W:=n) One.X zu (by decide) u3 (c:=V) e qQ;have bh:(n.alloc (.cells #[] dD)).cell? (L,k*3+2)=some (B2 y.gC.length V):=((aj ((gD n.heap.size n).alloc (ae _) _)).1 _ _ Wv).trans u2;obtain⟨Wa,bj,zh,A⟩:=aO W2 aK #[.int .i64 (O:Int),.int .i64 ((P:Int)+1)];have TM:=Q.trans (zh.mono Q.size);obtain⟨Wb,WA,Lr,T⟩:=aO Wa kl #[.slice (W2,0) 2 2];have TN:=TM.trans (Lr.mono TM.size);have A:=A.l Lr;obtain⟨Wc,bl,EX,BR⟩:=aO Wb aK #[.int .i64 (Y:Int)];have TP:=TN.trans (EX.mono TN.size);have A:=A.l EX;have T:=T.l EX;have o:=ho;have o:=gj o zh;have o:=gj o Lr;have o:=gj o EX;obtain⟨Aq,cq,j,a6,bW,U,-⟩:=dJ zu 63 Wc n.heap.size _ cp Ap c0 #[(),.slice (Wa,0) 1 1,(),.slice (Wb,0) 1 1,(),.int .i64 (E:Int)] rfl o (by simp[Value.oneCell']) (by omega) TP.size;have B:Below n n j:=wL TP o U;have h4:=a.below B;have sp:Sp n.heap.size dD Wc j:=Sp.push o (ae _) U;have A:=sp.bk A (by decide);have T:=sp.bk T (by decide);have BR:=sp.bk BR (by decide);have Dq:=z.l B;have C:∀(b:Nat) (t:TypeId) (D:Array Value),Bk j b t D->t∈UN->t≠ja->Tf j b/\b≠L:=λb t D hk ht a7=>⟨⟨D,t,hk,ht⟩,Bk.ne hk Dq a7⟩
   have n1:=Cb (S:=λb=>Tf j b/\b≠L) A [(O:Int),(P:Int)+1] rfl (λx K=>by simp at K;rcases K with rfl|rfl<;>exact⟨by omega,by omega⟩) (C _ _ _ A (by decide) (by decide));have n2:=Cb (S:=λb=>Tf j b/\b≠L) BR [(Y:Int)] rfl (λx K=>by simp at K;subst K;exact⟨by omega,by omega⟩) (C _ _ _ BR (by decide) (by decide));have n3:=Mc (S:=λb=>Tf j b/\b≠L) (R:=gT) (size:=1) T [(O:Int),(P:Int)+1] ⟨_,2,rfl,n1⟩ rfl (C _ _ _ T (by decide) (by decide));have ap:lj j (λb=>Tf j b/\b≠L) [.slice none 0 0,.slice (Wa,0) 1 1,.slice none 0 0,.slice (Wb,0) 1 1,.slice none 0 0,.int .i64 (E:Int)] ⟨[],[[(O:Int),(P:Int)+1]],[],[(Y:Int)],[],(E:Int)⟩:=⟨_,_,_,_,_,_,_,_,_,_,rfl,⟨by show _<=(E:Int);omega,by show(E:Int)<=_;omega⟩,Sl.nil,n3,Sl.nil,n2,Sl.nil⟩
   have a1:j.frozen? (L,k*3+2)=false:=Dq.frozen _;have zI:j.cell? (L,k*3+2)=some (B2 y.gC.length V):=((aj B).1 _ _ Wv).trans u2;have aq:=TC.more lj.ok h4.low Dq al bW ao (y:=(⟨[],[[(O:Int),(P:Int)+1]],[],[(Y:Int)],[],(E:Int)⟩:k')) ap rfl (by decide) (by decide) (by decide);have M:=J (h4.nl rfl X (k:=2) (by decide) (Aq (y.gC.length+1) cq) (λD N=>N.Bu aq (by simp)));have ar:∀r∈y.gC++[(⟨[],[[(O:Int),(P:Int)+1]],[],[(Y:Int)],[],(E:Int)⟩:k')],sy r/\∀s∈r.gE++r.ij++r.ahead,ip s.length:=λr hr=>by
    rw[jp,js]at hr;rcases hr with hr|rfl
    .exact HY.X r hr
    exact⟨⟨by show 0<=_;omega,by show 1<=_;omega,by show 0<=_;omega,by show 1<=_;omega,by show 0<=_;omega⟩,λs hs=>by simp at hs;subst hs;show 2<=_;omega⟩
   have jR:=J (p.T.xv k (x:= {y with gC:=y.gC++[(⟨[],[[(O:Int),(P:Int)+1]],[],[(Y:Int)],[],(E:Int)⟩:k')]}) {gC:=ki.snoc (l:=y.gC) e _,X:=ar});clear ar;have sv:=bG 63 (by kernel_rfl);clear u0 u2 u3 z Dq u l4 l5 l6 l7 l8 ho ao o bW U B h4 sp C ap aq Q A zh TM T Lr TN BR EX TP;go_wp2_with fail
   go_meet
   exact⟨_,_,M,jR⟩
  have bp:decide ((0:Int)<(f.ge.length:Int))=false:=decide_eq_false (by omega);have M:=J a.td;clear l4 l5 l6 l7 l8;go_wp2_with fail
  go_meet
  exact⟨_,_,M,p.T⟩
 case rest=>
 obtain⟨g,D,hT,hB⟩:=hcut;obtain⟨bm,av,aw,ay⟩:=hT.fin hB;have eX:=J av;have rO:=J aw;have xC:=J ay;have gV:=J hT.box;obtain⟨B1,e1,B2,V,B3,e3,B4,e4,B5,e5,B6,e6,B7,e7,B8,e8,rfl,-⟩:=hT.D;obtain⟨k0,k1,k2,k3,k4,k5,k6,k7,k8⟩:=nine gV (gD _ _);clear av aw ay hT hB a p;go_wp2_with fail
 exact bodyPost_ret (iV eX rO) rfl xC
theorem PY (f:iu)(A1 A2 A3 A4 A5 A6 A7 A8:Option Addr)(c1 c2 c3 c4 c5 c6 c7 c8:Nat)(i0:gN f.gt)(s1:Sl iA 9 v (Tf v) A1 f.ga)(s2:Sl kO 2 v (Tf v) A2 f.f6)(s3:Sl jn 3 v (Tf v) A3 f.ge)(s4:Sl kn 2 v (Tf v) A4 f.a')(s5:Sl kI 4 v (Tf v) A5 f.gM)(s6:Sl ko 1 v (Tf v) A6 f.d')(s7:Sl kx 1 v (Tf v) A7 f.fY)(s8:Sl gS 1 v (Tf v) A8 f.gP)(hS:pD f)(h0:0<f.ga.length)(N q1 q2:Int)(hq:(N.tmod 16+16).tmod 16=11\/(N.tmod 16+16).tmod 16=14):Calls Tryz.prog 4 #[.agg #[f.gt,A1 f.ga.length c1,A2 f.f6.length c2,A3 f.ge.length c3,A4 f.a'.length c4,A5 f.gM.length c5,A6 f.d'.length c6,A7 f.fY.length c7,A8 f.gP.length c8],.agg #[N,q1,q2]] v (ny v):=by
 obtain⟨Wf,Wq,Wr,Wg,Wl,o,G,cg,cl,Al,aN,xN,oC,O,P,xR,xU,xJ,xH,aQ,xI,j2,j1,j0,ad,z⟩:=kW v f A1 A2 A3 A4 A5 A6 A7 A8 c1 c2 c3 c4 c5 c6 c7 c8 i0 s1 s2 s3 s4 s5 s6 s7 s8 hS h0 N q1 q2;have b1:=hS.ga;have b2:=hS.ge;unfold ki at b1 b2;have H:=J hS;have vg:=bG 24 (by kernel_rfl);have vl:=bG 26 (by kernel_rfl);obtain⟨r2,ak,bg,bf⟩:=bJ q2 100 (by omega);obtain⟨A,aR,uY⟩:=aY (r2+(100:Nat)) 100 (by omega) (by omega);obtain⟨r1,aW,bh,al⟩:=bJ q1 f.ga.length h0;obtain⟨i,a0,a1⟩:=aY (r1+f.ga.length) f.ga.length h0 (by omega);have hK:0<f.ge.length->∃(r:Int) (k:Nat),q1.tmod (f.ge.length:Int)=r/\ -(f.ge.length:Int)<r/\r<f.ge.length/\(r+f.ge.length).tmod (f.ge.length:Int)=(k:Int)/\k<f.ge.length:=λQ=>by
  obtain⟨r,ha,hb,hc⟩:=bJ q1 f.ge.length Q;obtain⟨k,hd,he⟩:=aY (r+f.ge.length) f.ge.length Q (by omega);exact⟨r,k,ha,hb,hc,hd,he⟩
 have HK:=J hK;have bn:decide ((0:Int)<(f.ga.length:Int))=true:=decide_eq_true (by omega);have lh:((100:Nat):Int)=100:=rfl;rw[lh]at ak aR;clear hS hK lh i0 s1 s2 s3 s4 s5 s6 s7 s8;obtain⟨mm,T⟩:∃m:Int,(N.tmod 16+16).tmod 16=m:=⟨_,rfl⟩
 rw[T]at hq;obtain⟨r0,a2⟩:∃r:Int,N.tmod 16=r/\ -16<r/\r<16:=bJ N 16 (by omega);obtain⟨ao,al,DD⟩:=a2;rw[ao]at T;go_enter Tryz.func4,Tryz.ntmps4
 go_upto_if 39 with fail
 try clear aN
 try clear xN
 try clear oC
 clear xR xU O P j2 ak a0 aW bn;go_cut [9]from 40 to 50 (λw wx=>∃k:Nat,w=.int .i64 k/\(0<f.ge.length->k<f.ge.length)/\Wl=wx)
 case first=>
  by_cases Q:0<f.ge.length
  .obtain⟨r,k,e1,U,e3,e4,e5⟩:=HK Q;have bp:decide ((0:Int)<(f.ge.length:Int))=true:=decide_eq_true (by omega);go_wp2_with fail
   go_meet
   exact⟨k,rfl,λ_=>e5,rfl⟩
  have bp:decide ((0:Int)<(f.ge.length:Int))=false:=decide_eq_false (by omega);go_wp2_with fail
  go_meet
  exact⟨0,rfl,λh=>absurd h Q,rfl⟩
 case rest=>
 obtain⟨k,rfl,a3,rfl⟩:=hcut;clear HK j1
 go_upto_block 0 with fail
 try rw[ad]
 clear vg vl ad xJ aQ xH xI j0 ao T;go_cut []from 60 to 374 (λwx=>∃(g:iu) (V:List Value),TD v wx Wq.heap.size V g/\mp g)
 case first=>
  have FW:=z.low.size;have qQ:Hid (Below v v o):=J z.low;obtain⟨x,D3,d3,D4,d4,D5,d5,D6,d6,D7,d7,D8,d8,X,l4,l5,l6,l7,l8,a4,t4,t5,t6,t7,t8⟩:=z.z a1;have HX:=J (H.z x (kj X));have EC:G<o.heap.size:=by obtain⟨gc,kD,h1,-⟩:=z.K;exact h1.lt
  have T4:=J t4;have T5:=J t5;have T6:=J t6;have T7:=J t7;have T8:=J t8;have bn:decide ((0:Int)<(f.ga.length:Int))=true:=decide_eq_true (by omega);clear a4 t4 t5 t6 t7 t8;rcases hq with rfl|rfl
  .obtain⟨K,a5,bj⟩:=aY (A:Int) 4 (by omega) (by omega);rw[show((4:Nat):Int)=4 from rfl]at a5;obtain⟨M,a6,bl⟩:=aY (A:Int) 8 (by omega) (by omega);rw[show((8:Nat):Int)=8 from rfl]at a6;by_cases Q:0<f.ge.length
   .have bp:decide ((0:Int)<(f.ge.length:Int))=true:=decide_eq_true (by omega);have ap:=a3 Q;obtain⟨L,y,B2,U,hA,hy,u2,u0,u3,Wv,a7,a8,aq,ar⟩:=z.look ap;simp only at hA;subst hA;have HY:=J (H.T.look y (kj hy));have a:=H.look y (kj hy);unfold ki at a;obtain⟨Ap,cp,W2,c0,av,ho,B,p⟩:=jC (W:=o) One.X zu (by decide) u3 (c:=U) a qQ;have a9:(o.alloc (.cells #[] dD)).cell? (L,k*3+2)=some (B2 y.gC.length U):=((aj ((gD o.heap.size o).alloc (ae _) _)).1 _ _ Wv).trans u2;obtain⟨Wa,ba,Y,j⟩:=aO W2 aK #[.int .i64 0];have TM:=p.trans (Y.mono p.size);obtain⟨Wb,WA,Lr,I⟩:=aO Wa aK #[.int .i64 1];have TN:=TM.trans (Lr.mono TM.size);have j:=j.l Lr;obtain⟨Wc,bm,EX,Z⟩:=aO Wb kl #[.slice (W2,0) 1 1,.slice (Wa,0) 1 1];have TP:=TN.trans (EX.mono TN.size);have j:=j.l EX;have I:=I.l EX;obtain⟨Wd,bo,VT,C⟩:=aO Wc xh #[.int .i64 ((K:Int) - 1),.int .i64 ((M:Int) - 1)];have aa:=TP.trans (VT.mono TP.size);have j:=j.l VT;have I:=I.l VT;have Z:=Z.l VT;have n:=ho;have n:=gj n Y;have n:=gj n Lr;have n:=gj n EX;have n:=gj n VT;obtain⟨Aq,cq,d,ab,bW,q,-⟩:=dJ zu 63 Wd o.heap.size _ cp Ap c0 #[(),.slice (Wb,0) 2 2,(),(),.slice (Wc,0) 1 1,.int .i64 0] rfl n (by simp[Value.oneCell']) (by omega) aa.size;have u:Below o o d:=wL aa n q;have D:=z.below u;have sp:Sp o.heap.size dD Wd d:=Sp.push n (ae _) q;have j:=sp.bk j (by decide);have I:=sp.bk I (by decide);have Z:=sp.bk Z (by decide);have C:=sp.bk C (by decide);have Dq:=ar.l u;have E:∀(b:Nat) (t:TypeId) (V:Array Value),Bk d b t V->t∈UN->t≠ja->Tf d b/\b≠L:=λb t V hk ht bb=>⟨⟨V,t,hk,ht⟩,Bk.ne hk Dq bb⟩
    have n1:=Cb (S:=λb=>Tf d b/\b≠L) j [0] rfl (λx X=>by simp at X;subst X;exact⟨by omega,by omega⟩) (E _ _ _ j (by decide) (by decide));have n2:=Cb (S:=λb=>Tf d b/\b≠L) I [1] rfl (λx X=>by simp at X;subst X;exact⟨by omega,by omega⟩) (E _ _ _ I (by decide) (by decide));have n3:=R4 (S:=λb=>Tf d b/\b≠L) (R:=gT) Z [0] [1] ⟨_,1,rfl,n1⟩ ⟨_,1,rfl,n2⟩ (E _ _ _ Z (by decide) (by decide));have n4:=Mc (S:=λb=>Tf d b/\b≠L) (R:=mo) (size:=2) C ⟨(K:Int) - 1,(M:Int) - 1⟩ ⟨rfl,⟨by show _<=(K:Int) - 1;omega,by show(K:Int) - 1<=_;omega⟩,⟨by show _<=(M:Int) - 1;omega,by show(M:Int) - 1<=_;omega⟩⟩ rfl (E _ _ _ C (by decide) (by decide));have aw:lj d (λb=>Tf d b/\b≠L) [.slice none 0 0,.slice (Wb,0) 2 2,.slice none 0 0,.slice none 0 0,.slice (Wc,0) 1 1,.int .i64 0] ⟨[],[[0],[1]],[],[],[⟨(K:Int) - 1,(M:Int) - 1⟩],0⟩:=⟨_,_,_,_,_,_,_,_,_,_,rfl,⟨by show(_:Int)<=0;omega,by show(0:Int)<=_;omega⟩,Sl.nil,n3,Sl.nil,Sl.nil,n4⟩
    have bc:d.frozen? (L,k*3+2)=false:=Dq.frozen _;have zI:d.cell? (L,k*3+2)=some (B2 y.gC.length U):=((aj u).1 _ _ Wv).trans u2;have ay:=TC.more lj.ok D.low Dq a8 bW B (y:=(⟨[],[[0],[1]],[],[],[⟨(K:Int) - 1,(M:Int) - 1⟩],0⟩:k')) aw rfl (by decide) (by decide) (by decide);have jq:=J (D.nl rfl hy (k:=2) (by decide) (Aq (y.gC.length+1) cq) (λV bd=>bd.Bu ay (by simp)));have F:∀r∈y.gC++[(⟨[],[[0],[1]],[],[],[⟨(K:Int) - 1,(M:Int) - 1⟩],0⟩:k')],sy r/\∀s∈r.gE++r.ij++r.ahead,ip s.length:=λr br=>by
     rw[jp,js]at br;rcases br with br|rfl
     .exact HY.X r br
     exact⟨⟨by show 0<=_;omega,by show 2<=_;omega,by show 0<=_;omega,by show 0<=_;omega,by show 1<=_;omega⟩,λs hs=>by simp at hs;rcases hs with rfl|rfl<;>(show 1<=_;omega)⟩
    have jR:=J (H.T.xv k (x:= {y with gC:=y.gC++[(⟨[],[[0],[1]],[],[],[⟨(K:Int) - 1,(M:Int) - 1⟩],0⟩:k')]}) {gC:=ki.snoc (l:=y.gC) a _,X:=F});clear F;have sv:=bG 63 (by kernel_rfl);clear u0 u2 u3 ar Dq a7 l4 l5 l6 l7 l8 ho B n bW q u D sp E aw ay p j Y TM I Lr TN Z EX TP C VT aa;go_wp2_with fail
    go_meet
    exact⟨_,_,jq,jR⟩
   have bp:decide ((0:Int)<(f.ge.length:Int))=false:=decide_eq_false (by omega);have jq:=J z.td;clear l4 l5 l6 l7 l8;go_wp2_with fail
   go_meet
   exact⟨_,_,jq,H.T⟩
  obtain⟨w,ve,vl⟩:=aY (A:Int) 5 (by omega) (by omega);rw[show((5:Nat):Int)=5 from rfl]at ve;have a:=H.e;unfold ki at a;obtain⟨Ap,cp,W2,c0,av,ho,B,p⟩:=jC (W:=o) One.tH Di (by decide) z.e (c:=c6) a qQ;have a9:(o.alloc (.cells #[] sK)).cell? (v,6)=some (A6 f.d'.length c6):=z.box.at ((gD _ _).alloc (ae _) _) 6 rfl;obtain⟨Wa,ba,Y,j⟩:=aO W2 kR #[.int .i64 ((A:Int) - 90),.int .i64 ((w:Int) - 2),.int .i64 64];have ac:=p.trans (Y.mono p.size);have n:=gj ho Y;obtain⟨Aq,cq,d,ab,bW,q,-⟩:=dJ Di 29 Wa o.heap.size _ cp Ap c0 #[.slice (W2,0) 1 1] rfl n (by simp[Value.oneCell']) (by omega) ac.size;have u:Below o o d:=wL ac n q;have D:=z.below u;have j:=(Sp.push n (ae _) q:Sp o.heap.size _ Wa d).bk j (by decide);have bc:d.frozen? (v,6)=_:=D.box.frozen 6;have zI:d.cell? (v,6)=some (A6 f.d'.length c6):=D.box.cell 6;have aD:=D.td.field 6 (Aq (f.d'.length+1) cq) (g':= {f with d':=f.d'++[(⟨[⟨(A:Int) - 90,(w:Int) - 2,64⟩]⟩:Region)]}) (by
   have hs:=sZ ko.ok bW B D.low (Tf.low D.low) (y:=(⟨[⟨(A:Int) - 90,(w:Int) - 2,64⟩]⟩:Region)) ⟨_,1,rfl,Mc (S:=Tf d) (R:=oT) (size:=3) j ⟨(A:Int) - 90,(w:Int) - 2,64⟩ ⟨rfl,⟨by show _<=(A:Int) - 90;omega,by show(A:Int) - 90<=_;omega⟩,⟨by show _<=(w:Int) - 2;omega,by show(w:Int) - 2<=_;omega⟩,⟨by show _<=(64:Int);omega,by show(64:Int)<=_;omega⟩⟩ rfl ⟨_,_,j,by decide⟩⟩ rfl (λb aq hk _=>⟨aq,_,hk,by decide⟩) (by decide);obtain⟨B1,e1,B2,U,B3,e3,B4,e4,B5,e5,B6,e6,B7,e7,B8,e8,e,i0,n1,n2,n3,n4,n5,n6,n7,n8⟩:=D.td.D;rw[e];exact⟨B1,e1,B2,U,B3,e3,B4,e4,B5,e5,Aq,cq,B7,e7,B8,e8,by simp,i0,n1,n2,n3,n4,n5,hs,n7,n8⟩)
  have jq:=J aD;have F:∀r∈f.d'++[(⟨[⟨(A:Int) - 90,(w:Int) - 2,64⟩]⟩:Region)],ip r.kB.length:=λr br=>by
   rw[jp,js]at br;rcases br with br|rfl
   .exact H.T.tH r br
   show 1<=_;omega
  have jR:Hid (mp {f with d':=f.d'++[(⟨[⟨(A:Int) - 90,(w:Int) - 2,64⟩]⟩:Region)]}):=J {H.T with e:=H.e.snoc _,tH:=F};have sv:=bG 29 (by kernel_rfl);clear F Y j ho B bW q aD D p u l4 l5 l6 l7 l8 n ac;go_wp2_with fail
  go_meet
  exact⟨_,_,jq,jR⟩
 case rest=>
 obtain⟨g,V,hT,hB⟩:=hcut;obtain⟨bq,aE,aL,aM⟩:=hT.fin hB;have eX:=J aE;have rO:=J aL;have xC:=J aM;have gV:=J hT.box;obtain⟨B1,e1,B2,U,B3,e3,B4,e4,B5,e5,B6,e6,B7,e7,B8,e8,rfl,-⟩:=hT.D;obtain⟨k0,k1,k2,k3,k4,k5,k6,k7,k8⟩:=nine gV (gD _ _);clear aE aL aM hT hB z H;go_wp2_with fail
 exact bodyPost_ret (iV eX rO) rfl xC
theorem EJ (f:iu)(A1 A2 A3 A4 A5 A6 bf K:Option Addr)(c1 c2 c3 c4 c5 c6 L M:Nat)(E:gN f.gt)(s1:Sl iA 9 v (Tf v) A1 f.ga)(s2:Sl kO 2 v (Tf v) A2 f.f6)(s3:Sl jn 3 v (Tf v) A3 f.ge)(s4:Sl kn 2 v (Tf v) A4 f.a')(s5:Sl kI 4 v (Tf v) A5 f.gM)(s6:Sl ko 1 v (Tf v) A6 f.d')(s7:Sl kx 1 v (Tf v) bf f.fY)(s8:Sl gS 1 v (Tf v) K f.gP)(N:pD f)(h0:0<f.ga.length)(F O q2:Int)(hq:(F.tmod 16+16).tmod 16=15):Calls Tryz.prog 4 #[.agg #[f.gt,A1 f.ga.length c1,A2 f.f6.length c2,A3 f.ge.length c3,A4 f.a'.length c4,A5 f.gM.length c5,A6 f.d'.length c6,bf f.fY.length L,K f.gP.length M],.agg #[F,O,q2]] v (ny v):=by
 obtain⟨Wf,Wq,Wr,Wg,Wl,l,G,cg,cl,Al,aw,xN,oC,p,q,xR,xU,xJ,xH,ay,xI,j2,j1,j0,P,j⟩:=kW v f A1 A2 A3 A4 A5 A6 bf K c1 c2 c3 c4 c5 c6 L M E s1 s2 s3 s4 s5 s6 s7 s8 N h0 F O q2;have b1:=N.ga;have b2:=N.ge;unfold ki at b1 b2;have n:=J N;have vg:=bG 24 (by kernel_rfl);have vl:=bG 26 (by kernel_rfl);obtain⟨r2,Q,a3,a1⟩:=bJ q2 100 (by omega);obtain⟨a,aD,uY⟩:=aY (r2+(100:Nat)) 100 (by omega) (by omega);obtain⟨r1,aE,a4,T⟩:=bJ O f.ga.length h0;obtain⟨i,aL,aM⟩:=aY (r1+f.ga.length) f.ga.length h0 (by omega);have hK:0<f.ge.length->∃(r:Int) (k:Nat),O.tmod (f.ge.length:Int)=r/\ -(f.ge.length:Int)<r/\r<f.ge.length/\(r+f.ge.length).tmod (f.ge.length:Int)=(k:Int)/\k<f.ge.length:=λU=>by
  obtain⟨r,ha,hb,hc⟩:=bJ O f.ge.length U;obtain⟨k,hd,he⟩:=aY (r+f.ge.length) f.ge.length U (by omega);exact⟨r,k,ha,hb,hc,hd,he⟩
 have HK:=J hK;have bn:decide ((0:Int)<(f.ga.length:Int))=true:=decide_eq_true (by omega);have lh:((100:Nat):Int)=100:=rfl;rw[lh]at Q aD;clear N hK lh E s1 s2 s3 s4 s5 s6 s7 s8;obtain⟨mm,s⟩:∃m:Int,(F.tmod 16+16).tmod 16=m:=⟨_,rfl⟩
 rw[s]at hq;obtain⟨r0,aN⟩:∃r:Int,F.tmod 16=r/\ -16<r/\r<16:=bJ F 16 (by omega);obtain⟨V,T,DD⟩:=aN;rw[V]at s;go_enter Tryz.func4,Tryz.ntmps4
 go_upto_if 39 with fail
 try clear aw
 try clear xN
 try clear oC
 clear xR xU p q j2 Q aL aE bn;go_cut [9]from 40 to 50 (λw wx=>∃k:Nat,w=.int .i64 k/\(0<f.ge.length->k<f.ge.length)/\Wl=wx)
 case first=>
  by_cases U:0<f.ge.length
  .obtain⟨r,k,X,Y,Z,e4,H⟩:=HK U;have bp:decide ((0:Int)<(f.ge.length:Int))=true:=decide_eq_true (by omega);go_wp2_with fail
   go_meet
   exact⟨k,rfl,λ_=>H,rfl⟩
  have bp:decide ((0:Int)<(f.ge.length:Int))=false:=decide_eq_false (by omega);go_wp2_with fail
  go_meet
  exact⟨0,rfl,λh=>absurd h U,rfl⟩
 case rest=>
 obtain⟨k,rfl,a5,rfl⟩:=hcut;clear HK j1
 go_upto_block 0 with fail
 try rw[P]
 clear vg vl P xJ ay xH xI j0 V s;go_cut []from 60 to 374 (λwx=>∃(g:iu) (cs:List Value),TD v wx Wq.heap.size cs g/\mp g)
 case first=>
  have FW:=j.low.size;have qQ:Hid (Below v v l):=J j.low;obtain⟨x,D3,d3,D4,d4,D5,d5,D6,d6,D7,d7,D8,d8,hx,l4,l5,l6,l7,l8,aQ,t4,t5,t6,t7,t8⟩:=j.z aM;have HX:=J (n.z x (kj hx));have EC:G<l.heap.size:=by obtain⟨gc,kD,h1,-⟩:=j.K;exact h1.lt
  have T4:=J t4;have T5:=J t5;have T6:=J t6;have T7:=J t7;have T8:=J t8;have bn:decide ((0:Int)<(f.ga.length:Int))=true:=decide_eq_true (by omega);clear aQ t4 t5 t6 t7 t8;subst hq;obtain⟨w,ve,vl⟩:=aY (a:Int) 42 (by omega) (by omega);rw[show((42:Nat):Int)=42 from rfl]at ve;have o:=n.fY;unfold ki at o;obtain⟨Ap,cp,W2,c0,a2,ho,aa,t⟩:=jC (W:=l) One.code LM (by decide) j.fY (c:=L) o qQ;have a6:(l.alloc (.cells #[] Ik)).cell? (v,7)=some (bf f.fY.length L):=j.box.at ((gD _ _).alloc (ae _) _) 7 rfl;obtain⟨Wa,a7,zh,kN⟩:=aO W2 qj #[.int .i64 (w:Int),.int .i64 (a:Int)];have u:=t.trans (zh.mono t.size);have je:=gj ho zh;obtain⟨Aq,cq,I,aR,bW,z,-⟩:=dJ LM 30 Wa l.heap.size _ cp Ap c0 #[.slice (W2,0) 1 1] rfl je (by simp[Value.oneCell']) (by omega) u.size;have ab:Below l l I:=wL u je z;have A:=j.below ab;have kN:=(Sp.push je (ae _) z:Sp l.heap.size _ Wa I).bk kN (by decide);have a8:I.frozen? (v,7)=_:=A.box.frozen 7;have zI:I.cell? (v,7)=some (bf f.fY.length L):=A.box.cell 7;have d:=A.td.field 7 (Aq (f.fY.length+1) cq) (g':= {f with fY:=f.fY++[[(⟨(w:Int),(a:Int)⟩:Ins)]]}) (by
   have hs:=sZ kx.ok bW aa A.low (Tf.low A.low) (y:=[(⟨(w:Int),(a:Int)⟩:Ins)]) ⟨_,1,rfl,Mc (S:=Tf I) (R:=ky) (size:=2) kN ⟨(w:Int),(a:Int)⟩ ⟨rfl,⟨by show _<=(w:Int);omega,by show(w:Int)<=_;omega⟩,⟨by show _<=(a:Int);omega,by show(a:Int)<=_;omega⟩⟩ rfl ⟨_,_,kN,by decide⟩⟩ rfl (λb B hk _=>⟨B,_,hk,by decide⟩) (by decide);obtain⟨B1,X,B2,Y,B3,Z,B4,e4,B5,H,B6,e6,B7,e7,B8,e8,e,E,n1,n2,n3,n4,n5,n6,n7,n8⟩:=A.td.D;rw[e];exact⟨B1,X,B2,Y,B3,Z,B4,e4,B5,H,B6,e6,Aq,cq,B8,e8,by simp,E,n1,n2,n3,n4,n5,n6,hs,n8⟩)
  obtain⟨W5,oz⟩:∃x,I.setCell (v,7) (Aq (f.fY.length+1) cq)=x:=⟨_,rfl⟩
  rw[oz]at d;have ac:=n.gP;unfold ki at ac;obtain⟨Ar,cr,W6,c9,aW,WH,ad,C⟩:=jC (W:=W5) One.int iw (by decide) j.gP (c:=M) ac d.low;obtain⟨At,ct,W8,a0,ak,ED,-⟩:=dJ iw 22 W6 W5.heap.size _ cr Ar c9 #[.int .i64 (((a:Int) - 50)*400)] rfl WH (by simp[Value.oneCell']) (by omega) C.size;have al:Below W5 W5 W8:=wL C WH ED;have D:=d.below al;have a9:(W5.alloc (.cells #[] aK)).cell? (v,8)=some (K f.gP.length M):=Bk.at d.box ((gD _ _).alloc (ae _) _) 8 rfl;have ba:W8.frozen? (v,8)=_:=D.box.frozen 8;have bb:W8.cell? (v,8)=some (K f.gP.length M):=D.box.cell 8;have ao:=D.field 8 (At (f.gP.length+1) ct) (g':= {f with fY:=f.fY++[[(⟨(w:Int),(a:Int)⟩:Ins)]],gP:=f.gP++[((a:Int) - 50)*400]}) (by
   have hs:=sZ gS.ok ak ad D.low (Tf.low D.low) (y:=((a:Int) - 50)*400) ⟨rfl,⟨by show _<=((a:Int) - 50)*400;omega,by show((a:Int) - 50)*400<=_;omega⟩⟩ rfl (λb B hk _=>⟨B,_,hk,by decide⟩) (by decide);obtain⟨B1,X,B2,Y,B3,Z,B4,e4,B5,H,B6,e6,B7,e7,B8,e8,e,E,n1,n2,n3,n4,n5,n6,n7,n8⟩:=D.D;rw[e];exact⟨B1,X,B2,Y,B3,Z,B4,e4,B5,H,B6,e6,B7,e7,At,ct,by simp,E,n1,n2,n3,n4,n5,n6,n7,hs⟩)
  have jq:=J ao;have ap:∀r∈f.fY++[[(⟨(w:Int),(a:Int)⟩:Ins)]],ip r.length:=λr hr=>by
   rw[jp,js]at hr;rcases hr with hr|rfl
   .exact n.T.func r hr
   show 1<=_;omega
  have jR:Hid (mp {f with fY:=f.fY++[[(⟨(w:Int),(a:Int)⟩:Ins)]],gP:=f.gP++[((a:Int) - 50)*400]}):=J {n.T with fY:=n.fY.snoc _,gP:=n.gP.snoc _,func:=ap};have sv:=bG 30 (by kernel_rfl);have bc:=bG 22 (by kernel_rfl);clear ap zh kN ho aa bW z d A t ab l4 l5 l6 l7 l8 je u WH ad ak ED al D ao C;go_wp2_with fail
  try clear oz
  go_meet
  exact⟨_,_,jq,jR⟩
 case rest=>
 obtain⟨g,cs,hT,hB⟩:=hcut;obtain⟨bd,aq,ar,av⟩:=hT.fin hB;have eX:=J aq;have rO:=J ar;have xC:=J av;have gV:=J hT.box;obtain⟨B1,X,B2,Y,B3,Z,B4,e4,B5,H,B6,e6,B7,e7,B8,e8,rfl,-⟩:=hT.D;obtain⟨k0,k1,k2,k3,k4,k5,k6,k7,k8⟩:=nine gV (gD _ _);clear aq ar av hT hB j n;go_wp2_with fail
 exact bodyPost_ret (iV eX rO) rfl xC
theorem eval_at {a:Act}{k:Nat}{v:Value}(h:a.tmps[k]?=some v):a.eval (.tmp k)=v:=by simp[Act.eval,h]
theorem Ba (a:List Value)(v:Value):∀(t:Array Value) (b k:Nat),k=b+a.length->(nl t b a).setIfInBounds k v=nl t b (a++[v]):=by
 have d:∀(c:Nat->Nat) (a:List Value) (t:Array Value) (i:Nat),(qf t c i a).setIfInBounds (c (i+a.length)) v=qf t c i (a++[v]):=by
  intro c a;induction a with
  |nil=>intro t i;rfl
  |cons u a e=>intro t i;rw[aV,show i+(a.length+1)=i+1+a.length by omega];exact e _ _
 intro t b k h;subst h;have:=d (λi=>b+i) a t 0
 rwa [mU]at this
theorem uh {v:Value}{c:Nat}(k d:Nat)(j:c+i.length<=t.size)(f:k=c+d)(g:i[d]?=some v):(nl t c i)[k]?=some v:=by
 subst f;have:=Ii (sl:=λd=>c+d) i t 0 (λa b _ h _ e=>by omega) (λa _ h=>by show c+a<_;omega) d v g
 rwa [mU]at this
theorem Uh {c:List Value}(k:Nat)(d:b+c.length<=t.size)(f:k<b\/b+c.length<=k):(nl t b c)[k]?=t[k]? :=JR c t 0 (λa _ h e=>by omega)
theorem Tk (h:i.length=14):∃f g e j k l m n o p a b c d,i=[f,g,e,j,k,l,m,n,o,p,a,b,c,d]:=
 match i,h with
 |[f,g,e,j,k,l,m,n,o,p,a,b,c,d],_=>⟨f,g,e,j,k,l,m,n,o,p,a,b,c,d,rfl⟩
theorem Tl {k:List Value}(h:k.length=19):∃l m n o p q r s t u a b c d e f g i j,k=[l,m,n,o,p,q,r,s,t,u,a,b,c,d,e,f,g,i,j]:=
 match k,h with
 |[l,m,n,o,p,q,r,s,t,u,a,b,c,d,e,f,g,i,j],_=>⟨l,m,n,o,p,q,r,s,t,u,a,b,c,d,e,f,g,i,j,rfl⟩
theorem Tz {X:Nat}(E:mh e b X)(Z:TypeId){Y g B n c:Nat}(F:Y<=g)(G:Bk h g e #[])(Q:Y<=h)(p:Rd h B m n X i)(R:∀u∈i,u.oneCell'=true)(S:n<=100000):
  ∃k l w',(Builtin.append_ #[b,b] Z #[.slice (g,0) 0 0,m n c]).run Tryz.prog h=.ok (.slice k n l) w'/\w'.ownsRow Y e X (.slice k n l) n i/\Below h h w':=by
 have a:h.ownsRow Y e X (.slice (g,0) 0 0) 0 []:=⟨by simp,.inr ⟨g,0,#[],rfl,F,G,ae _,by unfold maxLen;omega,by simp,by simp⟩⟩
 obtain⟨t,z,q,hi,H,I,r,s,v⟩:=E;rcases Nat.eq_zero_or_pos n with h0|h0
 .subst h0;have V:i=[]:=List.eq_nil_of_length_eq_zero (by simpa using p.1);subst V;cases m with
  |none=>exact⟨some ⟨g,0,none⟩,0,h,yE h Y b Z e t X q hi _ 0 [] a c,a,gD _ _⟩
  |some K=>have:=run_append_room_cells (P:=Tryz.prog) h b Z e t q hi g 0 0 0 K 0 c [] (by simp) (by simp) (by simp) (by omega) (by simp) (by simp);exact⟨some ⟨g,0,none⟩,0,h,this,a,gD _ _⟩
 obtain⟨w,o,rfl,-,x⟩:=p.2 h0;have d:(0+n)*t.bytes<=140737488355328:=nt (Nat.mul_le_mul (show 0+n<=100000000000 by omega) s) (by decide);obtain⟨T,w',f,A,y⟩:=run_append_arg_grows (P:=Tryz.prog) h b Z e t z X t.bytes q hi H I rfl r v (g,0) 0 0 [] (by simp) (by simp) (w,o) n c i p.1 (λj u L=>by rw[jt];exact x j u L) (by omega) (by unfold maxLen;omega) d;simp only[mU,pG]at A;obtain⟨k,l,rfl⟩:=mP A;refine⟨k,l,w',f,⟨A.1,?_⟩,(gD _ _).grown y (ae _) (λ_ e=>by cases e)⟩;rcases A.2 with W|⟨M,C,D,N,U,O⟩
 .exact .inl W
 exact .inr ⟨M,C,D,N,by omega,O⟩
def sX (h:World)(d:Nat)(i:Option Addr)(c5 n:Nat)(e:List Value)(a b:Nat)(f:B):Nat->Value->World->Prop
 |0,v,w=>∃g,v=.slice (some ⟨g,0,none⟩) 0 0/\h.heap.size<=g/\Bk w g qh #[]
 |1,v,_=>v=.pointer (d,5)
 |2,v,_=>v= i n c5
 |3,v,w=>∃A c,v=.slice A n c/\w.ownsRow h.heap.size qh 4 (.slice A n c) n e
 |4,v,w=>∃g,v=.slice (some ⟨g,0,none⟩) 3 3/\Bk w g 9 #[.string ⟨#[97,120,97]⟩,.string ⟨#[113]⟩,.string ⟨#[]⟩]
 |6,v,_=>v=.int .i64 (b:Int)
 |7,v,w=>∃g,v=.pointer (some ⟨g,b,none⟩)/\Bk w g 9 #[.string ⟨#[97,120,97]⟩,.string ⟨#[113]⟩,.string ⟨#[]⟩]
 |8,v,_=>v=.string f
 |10,v,_=>v=.agg #[.string f,.int .i64 (a:Int),.int .i64 50,.int .i64 60]
 |11,v,w=>∃g,v=.slice (some ⟨g,0,none⟩) 1 1/\Bk w g qh #[.string f,.int .i64 (a:Int),.int .i64 50,.int .i64 60]
 |_,v,_=>v=.int .i64 (a:Int)
theorem sX.below {c5 n:Nat}{k:Nat}{p:B}(o:Nat)(v:Value)(w w':World)(d:Below w w w')(f:sX h e m c5 n i b k p o v w):sX h e m c5 n i b k p o v w':=by
 unfold sX at f ⊢;split at f
 .obtain⟨g,a,j,l⟩:=f;exact⟨g,a,j,l.l d⟩
 .exact f
 .exact f
 .obtain⟨A,c,a,j⟩:=f;exact⟨A,c,a,gj j d⟩
 .obtain⟨g,a,j⟩:=f;exact⟨g,a,j.l d⟩
 .exact f
 .obtain⟨g,a,j⟩:=f;exact⟨g,a,j.l d⟩
 .exact f
 .exact f
 .obtain⟨g,a,j⟩:=f;exact⟨g,a,j.l d⟩
 exact f
theorem Hc {w W1:World}{rb:Nat}{f:iu}{p:Fp}{G:Nat}(N:Hid (TC w W1 rb f p G))(U:Hid (pD f))(r D:Nat)(uY:r<100)(UO:(r:Int).tmod 3=(D:Int))(GM:D<3)(nm:B)(X:([.string ⟨#[97,120,97]⟩,.string ⟨#[113]⟩,.string ⟨#[]⟩]:List Value)[D]'(by simpa using GM)=.string nm)(Y:nm.length<=17)
  (ay:Array Oper) (dr:Bool) (hc:Tryz.f4.body.bind (oN 52)=some (ay,dr)) (Q:Exit->Act->World->Prop) (a0:Act) (hz:a0.tmps.size=376) (s:a0.tmps[2]?=some (.pointer (w,0))) (h5:a0.tmps[5]?=some (.int .i64 (r:Int)))
  (hQ:∀(k:List Value) (w':World) (g:iu) (cs:List Value),k.length=14->TD w w' rb cs g->mp g->Q .normal {tmps:=nl a0.tmps 344 k,defers:=a0.defers} w'):Code.wp Tryz.prog (.region 52 ay dr) Q a0 W1:=by
 simp only[Tryz.f4,Option.bind_some,oN,reduceIte,Nat.reduceEqDiff,reduceCtorEq,n',rE]at hc;obtain⟨rfl,rfl⟩:=hc;have FW:=N.low.size;have E:=U.gM;unfold ki at E;obtain⟨x0,F0,R0,O0⟩:=N.gM.yd One.qS (by decide) Tf.lt;have R1:=R0.below N.low (ae _);have aq:(0:Int)<=(D:Int):=by omega
 have ar:(D:Int)<3:=by omega
 refine GX 12 344 (sX W1 w.heap.size p.A5 p.c5 f.gM.length x0 r D nm) (by kernel_rfl) (by kernel_rfl) (by decide) (by kernel_rfl) (by kernel_rfl) (by omega) sX.below ?_ ?_
 .intro i o hi l a V m d q;have t2:=(m 2 (.inl (by omega))).trans s;have t5:=(m 5 (.inl (by omega))).trans h5;have t:=d.size;have H:i=0\/i=1\/i=2\/i=3\/i=4\/i=5\/i=6\/i=7\/i=8\/i=9\/i=10\/i=11:=by omega
  clear m s h5 hQ Y;rcases H with rfl|rfl|rfl|rfl|rfl|rfl|rfl|rfl|rfl|rfl|rfl|rfl
  .cases l
   go_simp
   exact⟨_,rfl,(gD _ _).alloc (ae _) _,_,rfl,t,Bk.new _ _ _⟩
  .cases l
   go_simp
   exact⟨_,rfl,gD _ _,rfl⟩
  .cases l;obtain⟨_,n,rfl⟩:=q 1 (by kernel_rfl);have hS:=N.box.at d 5 (W:= .slice p.A5 f.gM.length p.c5) rfl
   go_simp
   exact⟨_,rfl,gD _ _,rfl⟩
  .cases l;obtain⟨_,h0,g,rfl,hg,x⟩:=q 0 (by kernel_rfl);obtain⟨_,s,rfl⟩:=q 2 (by kernel_rfl);have e0:=eval_at h0;have aw:=eval_at s;obtain⟨A',c',w',P,l,hb⟩:=Tz (c:=p.c5) LJ 28 hg x t (R1.below d FW) O0 E;unfold Oper.wp execOp;simp only[resolve,invoke,builtin,Sem.run_bind,Sem.run_pure,Result.andThen_ok,List.map_toArray,lP,p9,e0,aw,P];exact⟨_,rfl,hb,_,_,rfl,l⟩
  .cases l
   go_simp
   exact⟨_,rfl,(gD _ _).alloc (ae _) _,_,rfl,Bk.new _ _ _⟩
  .cases l
   go_simp
   exact⟨_,rfl,gD _ _,rfl⟩
  .cases l;obtain⟨_,n,rfl⟩:=q 5 (by kernel_rfl)
   go_simp
   exact⟨_,rfl,gD _ _,rfl⟩
  .cases l;obtain⟨_,n,g,rfl,x⟩:=q 4 (by kernel_rfl);obtain⟨_,s,rfl⟩:=q 6 (by kernel_rfl)
   go_simp
   exact⟨_,rfl,gD _ _,_,rfl,x⟩
  .cases l;obtain⟨_,n,g,rfl,x⟩:=q 7 (by kernel_rfl);have hS:V.cell? (g,D)=some (.string nm):=(x.cell D).trans (by rw[<-X];simp[GM])
   go_simp
   exact⟨_,rfl,gD _ _,rfl⟩
  .cases l
   go_simp
   exact⟨_,rfl,gD _ _,rfl⟩
  .cases l;obtain⟨_,n,rfl⟩:=q 8 (by kernel_rfl);obtain⟨_,s,rfl⟩:=q 9 (by kernel_rfl)
   go_simp
   exact⟨_,rfl,gD _ _,rfl⟩
  cases l;obtain⟨_,n,rfl⟩:=q 10 (by kernel_rfl)
  go_simp
  exact⟨_,rfl,(gD _ _).alloc (ae _) _,_,rfl,Bk.new _ _ _⟩
 intro k V R d hf;have t:=d.size;have S:344+k.length<=a0.tmps.size:=by omega
 have Z:k[3]?=some k[3]:=jO (by omega);have L:k[11]?=some k[11]:=jO (by omega);obtain⟨A,c,aa,F⟩:=hf 3 _ Z;obtain⟨g,ab,x⟩:=hf 11 _ L;rw[aa]at Z;rw[ab]at L;have hr:Rd V (g+1) (g,0) 1 4 [.string nm,.int .i64 (r:Int),.int .i64 50,.int .i64 60]:=⟨rfl,λ_=>⟨g,0,rfl,by omega,λj u hu=>by rw[mU];exact(x.cell j).trans (by simpa using hu)⟩⟩
 refine Dc LJ rfl (.tmp 347) (.tmp 355) rfl V W1.heap.size f.gM.length c A x0 (g+1) (g,0) 1 1 _ (eval_at (uh 347 3 S rfl Z)) (eval_at (uh 355 11 S rfl L)) F hr (by simp[Value.oneCell']) (by omega) t ?_;intro z C W4 bW ac _;have ad:Below W1 W1 W4:=wL d F ac;have M:=N.below ad;have av:W4.frozen? (w,5)=_:=M.box.frozen 5;have zI:W4.cell? (w,5)=some (.slice p.A5 f.gM.length p.c5):=M.box.cell 5;have ak:=M.td.field 5 (z (f.gM.length+1) C) (g':= {f with gM:=f.gM++[(⟨nm,(r:Int),50,60⟩:mT)]}) (by
  have hs:=sZ kI.ok bW F0 M.low (Tf.low M.low) (y:=(⟨nm,(r:Int),50,60⟩:mT)) ⟨rfl,by simp[gN];omega,by simp[gN],by simp[gN]⟩ rfl (λb al x _=>⟨al,_,x,by decide⟩) (by decide);obtain⟨B1,I,B2,O,B3,aw,B4,e4,B5,e5,B6,e6,B7,e7,B8,e8,e,i0,n1,n2,n3,n4,n5,n6,n7,n8⟩:=M.td.D;rw[e];exact⟨B1,I,B2,O,B3,aw,B4,e4,z,C,B6,e6,B7,e7,B8,e8,by simp,i0,n1,n2,n3,n4,hs,n6,n7,n8⟩)
 have ao:∀a∈f.gM++[(⟨nm,(r:Int),50,60⟩:mT)],ip a.gn.length:=λa ha=>by
  rcases jp.1 ha with h|h
  .exact U.T.qS a h
  simp at h;subst h;show ip nm.length;unfold ip;omega
 have ap:mp {f with gM:=f.gM++[(⟨nm,(r:Int),50,60⟩:mT)]} := {U.T with gM:=U.gM.snoc _,qS:=ao}
 have sv:=bG 28 (by kernel_rfl);have ea:(Act.put {tmps:=nl a0.tmps 344 k,defers:=a0.defers} (some 356) (z (f.gM.length+1) C))={tmps:=nl a0.tmps 344 (k++[z (f.gM.length+1) C]),defers:=a0.defers} :=by simp only[Act.put];rw[Ba _ _ _ _ _ (by rw[R])]
 show wpList _ _ _ _ (Act.put _ (some 356) _) _;rw[ea];refine wpList_plain rfl λK W=> ?_
 have O:=eval_at (a:= {tmps:=nl a0.tmps 344 (k++[z (f.gM.length+1) C]),defers:=a0.defers}) ((Uh 2 (by simp;omega) (.inl (by omega))).trans s);unfold Oper.wp execOp;simp only[O]
 go_simp
 refine W _ _ ?_;rw[Ba _ _ _ _ _ (by simp[R])];clear W O;refine wpList_plain rfl λK W=> ?_
 have T:344+(k++[Value.slice z (f.gM.length+1) C]++[Value.pointer (w,5)]).length<=a0.tmps.size:=by simp;omega
 have aw:=eval_at (a:= {tmps:=nl a0.tmps 344 (k++[z (f.gM.length+1) C]++[.pointer (w,5)]),defers:=a0.defers}) (uh (v:= .pointer (w,5)) 357 13 T rfl (by simp[R]));have e4:=eval_at (a:= {tmps:=nl a0.tmps 344 (k++[z (f.gM.length+1) C]++[.pointer (w,5)]),defers:=a0.defers}) (uh (v:= z (f.gM.length+1) C) 356 12 T rfl (by simp[R]));unfold Oper.wp execOp;simp only[aw,e4]
 go_simp
 refine W _ _ ?_;exact hQ _ _ _ _ (by simp[R]) ak ap
def sY (j:World)(e:Nat)(k:Option Addr)(c4 n:Nat)(f:List Value)(h d a b:Nat)(i:B):Nat->Value->World->Prop
 |0,v,w=>∃g,v=.slice (some ⟨g,0,none⟩) 0 0/\j.heap.size<=g/\Bk w g DX #[]
 |1,v,_=>v=.pointer (e,4)
 |2,v,_=>v= k n c4
 |3,v,w=>∃A c,v=.slice A n c/\w.ownsRow j.heap.size DX 2 (.slice A n c) n f
 |4,v,w=>∃g,v=.slice (some ⟨g,0,none⟩) 5 5/\Bk w g 9 #[.string ⟨#[108,105,103,97]⟩,.string ⟨#[120]⟩,.string ⟨#[116,111,111,108,111,110,103,110,97,109,101]⟩,.string ⟨#[97,49]⟩,.string ⟨#[]⟩]
 |6,v,_=>v=.int .i64 (d:Int)
 |7,v,w=>∃g,v=.pointer (some ⟨g,d,none⟩)/\Bk w g 9 #[.string ⟨#[108,105,103,97]⟩,.string ⟨#[120]⟩,.string ⟨#[116,111,111,108,111,110,103,110,97,109,101]⟩,.string ⟨#[97,49]⟩,.string ⟨#[]⟩]
 |8,v,_=>v=.string i
 |10,v,_=>v=.int .i64 (a:Int)
 |11,v,_=>v=.int .i64 ((a:Int) - 1)
 |13,v,_=>v=.int .i64 (b:Int)
 |14,v,w=>∃g,v=.slice (some ⟨g,0,none⟩) 2 2/\Bk w g aK #[.int .i64 ((a:Int) - 1),.int .i64 (b:Int)]
 |15,v,w=>∃g,v=.agg #[.string i,.slice (some ⟨g,0,none⟩) 2 2]/\Bk w g aK #[.int .i64 ((a:Int) - 1),.int .i64 (b:Int)]
 |16,v,w=>∃x g,v=.slice (some ⟨x,0,none⟩) 1 1/\Bk w x DX #[.string i,.slice (some ⟨g,0,none⟩) 2 2]/\Bk w g aK #[.int .i64 ((a:Int) - 1),.int .i64 (b:Int)]
 |_,v,_=>v=.int .i64 (h:Int)
theorem sY.below {p:Option Addr}{c4 n:Nat}{k m o:Nat}{r:B}(f:Nat)(v:Value)(w w':World)(d:Below w w w')(l:sY h e p c4 n i k b m o r f v w):sY h e p c4 n i k b m o r f v w':=by
 unfold sY at l ⊢;split at l
 .obtain⟨g,a,q,j⟩:=l;exact⟨g,a,q,j.l d⟩
 .exact l
 .exact l
 .obtain⟨A,c,a,q⟩:=l;exact⟨A,c,a,gj q d⟩
 .obtain⟨g,a,q⟩:=l;exact⟨g,a,q.l d⟩
 .exact l
 .obtain⟨g,a,q⟩:=l;exact⟨g,a,q.l d⟩
 .exact l
 .exact l
 .exact l
 .exact l
 .obtain⟨g,a,q⟩:=l;exact⟨g,a,q.l d⟩
 .obtain⟨g,a,q⟩:=l;exact⟨g,a,q.l d⟩
 .obtain⟨x,g,a,q,j⟩:=l;exact⟨x,g,a,q.l d,j.l d⟩
 exact l
theorem DO {w W1:World}{rb:Nat}{f:iu}{p:Fp}{G:Nat}(O:Hid (TC w W1 rb f p G))(HS:Hid (pD f))(P n D:Nat)(uY:P<100)(UO:(P:Int).tmod 5=(n:Int))(GM:n<5)(aw:(P:Int).tmod 4=(D:Int))(ay:D<4)(nm:B)(ab:([.string ⟨#[108,105,103,97]⟩,.string ⟨#[120]⟩,.string ⟨#[116,111,111,108,111,110,103,110,97,109,101]⟩,.string ⟨#[97,49]⟩,.string ⟨#[]⟩]:List Value)[n]'(by simpa using GM)=.string nm)(ac:nm.length<=17)
  (aQ:Array Oper) (dr:Bool) (hc:Tryz.f4.body.bind (oN 50)=some (aQ,dr)) (Q:Exit->Act->World->Prop) (a0:Act) (hz:a0.tmps.size=376) (s:a0.tmps[2]?=some (.pointer (w,0))) (h5:a0.tmps[5]?=some (.int .i64 (P:Int)))
  (hQ:∀(q:List Value) (w':World) (g:iu) (cs:List Value),q.length=19->TD w w' rb cs g->mp g->Q .normal {tmps:=nl a0.tmps 323 q,defers:=a0.defers} w'):Code.wp Tryz.prog (.region 50 aQ dr) Q a0 W1:=by
 simp only[Tryz.f4,Option.bind_some,oN,reduceIte,Nat.reduceEqDiff,reduceCtorEq,n',rE]at hc;obtain⟨rfl,rfl⟩:=hc;have FW:=O.low.size;have I:=HS.k;unfold ki at I;obtain⟨x0,F0,R0,O0⟩:=O.k.yd One.tn (by decide) Tf.lt;have R1:=R0.below O.low (ae _);have aD:(0:Int)<=(n:Int):=by omega
 have aE:(n:Int)<5:=by omega
 have aL:IntKind.i64.wrap ((D:Int) - 1)=(D:Int) - 1:=jj _ (by omega) (by omega);refine GX 17 323 (sY W1 w.heap.size p.A4 p.c4 f.a'.length x0 P n D n nm) (by kernel_rfl) (by kernel_rfl) (by decide) (by kernel_rfl) (by kernel_rfl) (by omega) sY.below ?_ ?_
 .intro i o hi k a R t d m;have t2:=(t 2 (.inl (by omega))).trans s;have t5:=(t 5 (.inl (by omega))).trans h5;have E:=d.size;have L:i=0\/i=1\/i=2\/i=3\/i=4\/i=5\/i=6\/i=7\/i=8\/i=9\/i=10\/i=11\/i=12\/i=13\/i=14\/i=15\/i=16:=by omega
  clear t s h5 hQ ac;rcases L with rfl|rfl|rfl|rfl|rfl|rfl|rfl|rfl|rfl|rfl|rfl|rfl|rfl|rfl|rfl|rfl|rfl
  .cases k
   go_simp
   exact⟨_,rfl,(gD _ _).alloc (ae _) _,_,rfl,E,Bk.new _ _ _⟩
  .cases k
   go_simp
   exact⟨_,rfl,gD _ _,rfl⟩
  .cases k;obtain⟨_,l,rfl⟩:=m 1 (by kernel_rfl);have hS:=O.box.at d 4 (W:= .slice p.A4 f.a'.length p.c4) rfl
   go_simp
   exact⟨_,rfl,gD _ _,rfl⟩
  .cases k;obtain⟨_,h0,g,rfl,hg,r⟩:=m 0 (by kernel_rfl);obtain⟨_,s,rfl⟩:=m 2 (by kernel_rfl);have e0:=eval_at h0;have aN:=eval_at s;obtain⟨A',c',w',U,k,hb⟩:=Tz (c:=p.c4) LP 27 hg r E (R1.below d FW) O0 I;unfold Oper.wp execOp;simp only[resolve,invoke,builtin,Sem.run_bind,Sem.run_pure,Result.andThen_ok,List.map_toArray,lP,p9,e0,aN,U];exact⟨_,rfl,hb,_,_,rfl,k⟩
  .cases k
   go_simp
   exact⟨_,rfl,(gD _ _).alloc (ae _) _,_,rfl,Bk.new _ _ _⟩
  .cases k
   go_simp
   exact⟨_,rfl,gD _ _,rfl⟩
  .cases k;obtain⟨_,l,rfl⟩:=m 5 (by kernel_rfl)
   go_simp
   exact⟨_,rfl,gD _ _,rfl⟩
  .cases k;obtain⟨_,l,g,rfl,r⟩:=m 4 (by kernel_rfl);obtain⟨_,s,rfl⟩:=m 6 (by kernel_rfl)
   go_simp
   exact⟨_,rfl,gD _ _,_,rfl,r⟩
  .cases k;obtain⟨_,l,g,rfl,r⟩:=m 7 (by kernel_rfl);have hS:R.cell? (g,n)=some (.string nm):=(r.cell n).trans (by rw[<-ab];simp[GM])
   go_simp
   exact⟨_,rfl,gD _ _,rfl⟩
  .cases k
   go_simp
   exact⟨_,rfl,gD _ _,rfl⟩
  .cases k;obtain⟨_,l,rfl⟩:=m 9 (by kernel_rfl)
   go_simp
   exact⟨_,rfl,gD _ _,rfl⟩
  .cases k;obtain⟨_,l,rfl⟩:=m 10 (by kernel_rfl)
   go_simp
   exact⟨_,rfl,gD _ _,rfl⟩
  .cases k
   go_simp
   exact⟨_,rfl,gD _ _,rfl⟩
  .cases k;obtain⟨_,l,rfl⟩:=m 12 (by kernel_rfl)
   go_simp
   exact⟨_,rfl,gD _ _,rfl⟩
  .cases k;obtain⟨_,l,rfl⟩:=m 11 (by kernel_rfl);obtain⟨_,s,rfl⟩:=m 13 (by kernel_rfl)
   go_simp
   exact⟨_,rfl,(gD _ _).alloc (ae _) _,_,rfl,Bk.new _ _ _⟩
  .cases k;obtain⟨_,l,rfl⟩:=m 8 (by kernel_rfl);obtain⟨_,s,g,rfl,r⟩:=m 14 (by kernel_rfl)
   go_simp
   exact⟨_,rfl,gD _ _,g,rfl,r⟩
  cases k;obtain⟨_,l,g,rfl,r⟩:=m 15 (by kernel_rfl)
  go_simp
  exact⟨_,rfl,(gD _ _).alloc (ae _) _,_,g,rfl,Bk.new _ _ _,r.alloc _⟩
 intro q R V d hf;have E:=d.size;have W:323+q.length<=a0.tmps.size:=by omega
 have q3:q[3]?=some q[3]:=jO (by omega);have M:q[16]?=some q[16]:=jO (by omega);obtain⟨A,c,ad,C⟩:=hf 3 _ q3;obtain⟨x,g,ak,r,al⟩:=hf 16 _ M;rw[ad]at q3;rw[ak]at M;have hr:Rd R (x+1) (some ⟨x,0,none⟩) 1 2 [.string nm,.slice (g,0) 2 2]:=⟨rfl,λ_=>⟨x,0,rfl,by omega,λj u hu=>by rw[mU];exact(r.cell j).trans (by simpa using hu)⟩⟩
 refine Dc LP rfl (.tmp 326) (.tmp 339) rfl R W1.heap.size f.a'.length c A x0 (x+1) (some ⟨x,0,none⟩) 1 1 _ (eval_at (uh 326 3 W rfl q3)) (eval_at (uh 339 16 W rfl M)) C hr (by simp[Value.oneCell']) (by omega) E ?_;intro F H X bW Y _;have ao:Below W1 W1 X:=wL d C Y;have N:=O.below ao;have Z:=(Sp.push C (ae _) Y:Sp W1.heap.size _ R X).bk al (by decide);have aM:X.frozen? (w,4)=_:=N.box.frozen 4;have zI:X.cell? (w,4)=some (.slice p.A4 f.a'.length p.c4):=N.box.cell 4;have ap:=N.td.field 4 (F (f.a'.length+1) H) (g':= {f with a':=f.a'++[(⟨nm,[(D:Int) - 1,(n:Int)]⟩:mS)]}) (by
  have hs:=sZ kn.ok bW F0 N.low (Tf.low N.low) (y:=(⟨nm,[(D:Int) - 1,(n:Int)]⟩:mS)) ⟨_,2,rfl,Cb (S:=Tf X) Z [(D:Int) - 1,(n:Int)] rfl (λx hx=>by simp at hx;rcases hx with rfl|rfl<;>(unfold gN;omega)) ⟨_,_,Z,by decide⟩⟩ rfl (λb aq r _=>⟨aq,_,r,by decide⟩) (by decide);obtain⟨B1,z,B2,T,B3,aN,B4,e4,B5,e5,B6,e6,B7,e7,B8,e8,e,i0,n1,n2,n3,n4,n5,n6,n7,n8⟩:=N.td.D;rw[e];exact⟨B1,z,B2,T,B3,aN,F,H,B5,e5,B6,e6,B7,e7,B8,e8,by simp,i0,n1,n2,n3,hs,n5,n6,n7,n8⟩)
 have ar:∀a∈f.a'++[(⟨nm,[(D:Int) - 1,(n:Int)]⟩:mS)],vA a:=λa ha=>by
  rcases jp.1 ha with h|h
  .exact HS.T.tn a h
  simp at h;subst h;exact⟨by show ip nm.length;unfold ip;omega,by show ip 2;unfold ip;omega⟩
 have av:mp {f with a':=f.a'++[(⟨nm,[(D:Int) - 1,(n:Int)]⟩:mS)]} := {HS.T with k:=HS.k.snoc _,tn:=ar}
 have sv:=bG 27 (by kernel_rfl);have ea:(Act.put {tmps:=nl a0.tmps 323 q,defers:=a0.defers} (some 340) (F (f.a'.length+1) H))={tmps:=nl a0.tmps 323 (q++[F (f.a'.length+1) H]),defers:=a0.defers} :=by simp only[Act.put];rw[Ba _ _ _ _ _ (by rw[V])]
 show wpList _ _ _ _ (Act.put _ (some 340) _) _;rw[ea];refine wpList_plain rfl λK hK=> ?_
 have T:=eval_at (a:= {tmps:=nl a0.tmps 323 (q++[F (f.a'.length+1) H]),defers:=a0.defers}) ((Uh 2 (by simp;omega) (.inl (by omega))).trans s);unfold Oper.wp execOp;simp only[T]
 go_simp
 refine hK _ _ ?_;rw[Ba _ _ _ _ _ (by simp[V])];clear hK T;refine wpList_plain rfl λK hK=> ?_
 have aa:323+(q++[Value.slice F (f.a'.length+1) H]++[Value.pointer (w,4)]).length<=a0.tmps.size:=by simp;omega
 have aN:=eval_at (a:= {tmps:=nl a0.tmps 323 (q++[F (f.a'.length+1) H]++[.pointer (w,4)]),defers:=a0.defers}) (uh (v:= .pointer (w,4)) 341 18 aa rfl (by simp[V]));have e4:=eval_at (a:= {tmps:=nl a0.tmps 323 (q++[F (f.a'.length+1) H]++[.pointer (w,4)]),defers:=a0.defers}) (uh (v:= F (f.a'.length+1) H) 340 17 aa rfl (by simp[V]));unfold Oper.wp execOp;simp only[aN,e4]
 go_simp
 refine hK _ _ ?_;exact hQ _ _ _ _ (by simp[V]) ap av
