/- Lemmas. -/
import Derived.Lib.Hide
import Derived.WalkKit
import Derived.Deep.AppendLies
import Derived.Deep.Draws
set_option linter.all false
namespace Go.Proofs.YtalehhjjbadlpaaGreatDoor
open Go.RowKit
variable{a W:World}{b d:Nat}
theorem J {p:Prop} (h:p):Go.RowKit.Hid p:=Go.Lib.hid h
theorem ae (n:Nat):n<=n:=Nat.le_refl n
theorem nt {c:Nat}(h:d<=b)(k:b<=c):d<=c:=Nat.le_trans h k
theorem la {α:Type _} {a b:List α}:(a++b).length=a.length+b.length:=List.length_append
theorem aV {α:Type _} {a:α} {b:List α}:(a::b).length=b.length+1:=List.length_cons
theorem ln {α:Type _}:([]:List α).length=0:=List.length_nil
theorem nz (n:Nat):0<=n:=Nat.zero_le n
theorem nV {α:Type _} (a b:List α):(a++b).length<=a.length+b.length:=by rw[List.length_append];exact Nat.le_refl _
def gD:=@Below.refl
def js:=@List.mem_singleton
def ll:=@List.getElem?_eq_some_iff
def jO:=@List.getElem?_eq_getElem
def mq:=@Array.getElem?_eq_some_iff
def jp:=@List.mem_append
def lf:=@List.take_length
def lE:=@List.length_map
def kj:=@List.mem_of_getElem?
def mz:=@Nat.lt_of_lt_of_le
def lP:=@List.map_cons
def oj:=@List.getElem?_cons_zero
def lx:=@List.mem_cons
def mL:=@List.append_assoc
def oX:=@List.getElem?_cons_succ
def pH:=@Nat.le_add_right
def re:=@List.take_succ_eq_append_getElem
def nw:=@List.cons_append
def nW:=@List.flatMap_cons
def oY:=@List.take_of_length_le
def rh:=@Nat.add_le_add_right
def pn:=@List.mem_iff_getElem?
def ot:=@List.length_take
def ri:=@List.getElem?_append_right
def un:=@List.getElem?_append_left
def np:=@Bool.and_eq_true
def qn:=@List.getElem?_eq_none
def n':=@Option.some.injEq
def o0:=@List.foldl_cons
def po:=@List.getElem?_map
def pY:=@List.getElem?_take
def mN:=@List.mem_map
def pp:=@List.append_nil
def rA:=@List.take_append_drop
def rj:=@List.flatMap_append
def sj:=@List.drop_eq_nil_of_le
def qp:=@List.not_mem_nil
def pZ:=@List.all_eq_true
def pG:=@List.nil_append
def ra:=@List.map_append
def rz:=@List.mem_flatMap
def tw:=@List.length_drop
def pl:=@Nat.le_of_lt
def pm:=@List.take_add_one
def mU:=@Nat.zero_add
def xw:=@Nat.mul_le_mul_right
def ud:=@List.sum_cons
def tx:=@List.flatMap_nil
def xz:=@List.map_map
def xA:=@Nat.add_assoc
def xD:=@List.foldl_append
def p9:=@List.map_nil
def rE:=@Prod.mk.injEq
def vN:=@List.length_set
def xF:=@List.getElem?_set
def tz:=@List.length_pos_iff
def tA:=@List.cons.injEq
def rF:=@Nat.add_mul
def oa:=@Value.slice.injEq
def sk:=@decide_eq_true_eq
instance:Coe Int Value:=⟨Value.int .i64⟩
instance:Coe Nat Value:=⟨λn=>.int .i64 n⟩
instance:Coe (List UInt8) ByteArray:=⟨λs=>⟨s.toArray⟩⟩
instance:Coe Unit Value:=⟨λ_=>.slice none 0 0⟩
instance:Coe World Nat:=⟨λw=>w.heap.size⟩
instance:CoeFun (Option Addr) (λ_=>Nat->Nat->Value):=⟨Value.slice⟩
instance(b k:Nat):CoeDep (Nat×Nat) (b,k) Addr:=⟨⟨b,k,none⟩⟩
instance(b k:Nat):CoeDep (Nat×Nat) (b,k) (Option Addr):=⟨some ⟨b,k,none⟩⟩
instance(w:World)(k:Nat):CoeDep (World×Nat) (w,k) Addr:=⟨⟨w.heap.size,k,none⟩⟩
instance(w:World)(k:Nat):CoeDep (World×Nat) (w,k) (Option Addr):=⟨some ⟨w.heap.size,k,none⟩⟩
def Rd (w:World)(B:Nat)(A:Option Addr)(n size:Nat)(cs:List Value):Prop:=cs.length=n*size/\(0<n->∃b o,A=some ⟨b,o,none⟩/\b<B/\∀j u,cs[j]?=some u->w.cell? ⟨b,o+j,none⟩=some u)
section
variable {w w':World} {B B' size n:Nat} {A:Option Addr} {cs:List Value}
theorem Rd.nil (w:World)(B size:Nat)(A:Option Addr):Rd w B A 0 size []:=⟨by simp,λh=>absurd h (by omega)⟩
theorem Rd.keep (h:Rd w B A n size cs)(d:∀b,b<B->w'.heap[b]?=w.heap[b]?):Rd w' B A n size cs:=
 ⟨h.1,λf=>by
  obtain⟨b,o,e,c,g⟩:=h.2 f;exact⟨b,o,e,c,λj u i=>(World.cell?_of_block (a:=⟨b,o+j,none⟩) (d _ c)).trans (g j u i)⟩⟩
theorem Rd.mono (h:Rd w B A n size cs)(d:B<=B'):Rd w B' A n size cs:=⟨h.1,λa=>by obtain⟨b,o,e,f,c⟩:=h.2 a;exact⟨b,o,e,by omega,c⟩⟩
theorem Rd.below {C:Nat}(h:Rd w B A n size cs)(a:Below C w w')(d:B<=C):Rd w' B A n size cs:=h.keep λb c=>a.block b (by omega)
theorem Rd.drewN (h:Rd w B A n size cs)(k:Nat):Rd (w.drewN k) B A n size cs:=h
theorem Rd.drew (h:Rd w B A n size cs):Rd w.drew B A n size cs:=h
theorem Rd.alloc (h:Rd w B A n size cs)(a:B<=w)(o:Obj):Rd (w.alloc o) B A n size cs:=h.keep λb c=>Below.heap_alloc w o b (by omega)
theorem Rd.setCell (h:Rd w B A n size cs){p:Addr}(a:B<=p.block)(u:Value):Rd (w.setCell p u) B A n size cs:=h.keep λb c=>Below.heap_setCell w p u b (by omega)
theorem Rd.grown (h:Rd w B A n size cs){row:Option Nat}(a:w.grownBy w' row)(d:B<=w)(c:∀g,row=some g->B<=g):Rd w' B A n size cs:=h.keep λb f=>a.block b (by omega) (λe=>by have:=c _ e.symm;omega)
theorem Rd.U {r:Nat}{e:TypeId}{v:Value}(h:w.ownsRow r e size v n cs):∃A c,v=.slice A n c/\Rd w w.heap.size A n size cs:=by
 rcases h.2 with⟨rfl,rfl⟩|⟨g,a,f,rfl,p,i,k,l,m,b⟩
 .refine⟨none,0,rfl,h.1,λh=>absurd h (by omega)⟩
 refine⟨some ⟨g,0,none⟩,a,rfl,h.1,λq=>⟨g,0,rfl,(mq.1 i).1,λj u o=> ?_⟩⟩;have:=h.cells (g:=g) rfl j u o;by_cases d:j=0
 .subst d;simpa [Addr.add]using this
 simpa [Addr.add,d]using this
end
theorem below_drewN (h:Below b a W)(n:Nat):Below b a (W.drewN n):=⟨h.os,h.tape,h.output,h.size,h.block⟩
theorem aj (c:Below W.heap.size W a):(∀b o,b<W.heap.size->a.cell? ⟨b,o,none⟩=W.cell? ⟨b,o,none⟩)/\(∀b o,b<W.heap.size->a.frozen? ⟨b,o,none⟩=W.frozen? ⟨b,o,none⟩):=⟨λb o h=>c.cell (p:=⟨b,o,none⟩) h,λb o h=>c.frozen (p:=⟨b,o,none⟩) h⟩
theorem jt (b o j:Nat):((b,o):Addr).add j=(b,o+j):=by unfold Addr.add;by_cases a:j=0<;>simp[a]
section
variable {P:Program} (w:World)
theorem yE (j:Nat)(t k e:TypeId)(i:TypeInfo)(size:Nat)(d:P.underlying t=some (.slice e))(hi:P.info? e=some i)
  (v:Value) (n:Nat) (l:List Value) (a:w.ownsRow j e size v n l) (c:Nat):(Builtin.append_ #[t,t] k #[v,.slice none 0 c]).run P w=.ok v w:=by
 rcases a.2 with⟨rfl,rfl⟩|⟨g,f,h,rfl,_,_,b,_⟩
 .simp[Builtin.append_,run_underlying d,sizeOf,typeInfo,hi,Builtin.lenOf,Builtin.firstCells]
 simp[Builtin.append_,run_underlying d,sizeOf,typeInfo,hi,Builtin.lenOf,Builtin.firstCells,b,storeCells]
theorem rC (O:Nat)(t R e:TypeId)(i:TypeInfo)(z:Value)(size bytes:Nat)(E:P.underlying t=some (.slice e))(hi:P.info? e=some i)(G:i.zero=some z)
  (k:i.size=size) (s:i.bytes=bytes) (x:z.cells.size=size) (y:0<size)
  (v:Value) (n:Nat) (Q:List Value) (d:w.ownsRow O e size v n Q)
  (B:Nat) (A:Option Addr) (m c:Nat) (a:List Value) (q:Rd w B A m size a) (H:∀u∈a,u.oneCell'=true)
  (C:n+m<=maxLen) (f:(n+m)*bytes<=140737488355328) (l:O<=w):
  ∃p w',(Builtin.append_ #[t,t] R #[v,A m c]).run P w=.ok p w'/\w'.ownsRow O e size p (n+m) (Q++a)/\w.grownBy w' v.ownBlock/\
   (p.ownBlock=v.ownBlock\/p.ownBlock=some w.heap.size):=by
 rcases A with _|ad
 .have I:m=0:=by
   rcases Nat.eq_zero_or_pos m with h0|h0
   .exact h0
   obtain⟨b,o,h,_⟩:=q.2 h0;cases h
  subst I;have D:a=[]:=List.eq_nil_of_length_eq_zero (by simpa using q.1);subst D;exact⟨v,w,yE w O t R e i size E hi v n Q d c,by simpa using d,World.grownBy.refl w _,.inl rfl⟩
 have g:∀j u,a[j]?=some u->w.cell? (ad.add j)=some u:=by
  intro j u F;rcases Nat.eq_zero_or_pos m with h0|h0
  .subst h0;have D:a=[]:=List.eq_nil_of_length_eq_zero (by simpa using q.1);subst D;simp at F
  obtain⟨b,o,h,_,N⟩:=q.2 h0;injection h with h
  subst h;rw[jt];exact N j u F
 obtain⟨p,w',r,K,L,_,M⟩:=run_append_own_at (P:=P) w O t R e i z size bytes E hi G k s x y v n Q d ad m c a q.1 g H C f l;exact⟨p,w',r,K,L,M⟩
theorem EI {o:Oper}{a:Act}{K:Act->World->Prop}{Q:Exit->Act->World->Prop}(s x:Operand)(t:TypeId)
  (C:o.op=.call {callee:= .builtin .append,args:= #[s,x],argTypes:= #[t,t]})
  (O:Nat) (e:TypeId) (i:TypeInfo) (z:Value) (size bytes:Nat) (D:P.underlying t=some (.slice e)) (hi:P.info? e=some i) (E:i.zero=some z)
  (f:i.size=size) (p:i.bytes=bytes) (q:z.cells.size=size) (r:0<size)
  (v:Value) (n:Nat) (R:List Value) (F:a.eval s=v) (k:w.ownsRow O e size v n R)
  (B:Nat) (A:Option Addr) (m c:Nat) (b:List Value) (G:a.eval x= A m c) (H:Rd w B A m size b) (I:∀u∈b,u.oneCell'=true)
  (y:n+m<=maxLen) (d:(n+m)*bytes<=140737488355328) (g:O<=w)
  (h:∀j w',w'.ownsRow O e size j (n+m) (R++b)->w.grownBy w' v.ownBlock->(j.ownBlock=v.ownBlock\/j.ownBlock=some w.heap.size)->K (a.put o.dst j) w'):o.wp P a w K Q:=by
 obtain⟨j,w',l,N,L,M⟩:=rC (P:=P) w O t o.type e i z size bytes D hi E f p q r v n R k B A m c b H I y d g;unfold Oper.wp execOp;simp only[C,resolve,invoke,builtin,Sem.run_bind,Sem.run_pure,Result.andThen_ok,List.map_toArray,lP,p9,F,G,l];exact h j w' N L M
theorem iq {R:Array Oper}{rest:List Oper}{o:Oper}{a:Act}{Q:Exit->Act->World->Prop}(l:o.guard=none)(s x:Operand)(t:TypeId)
  (C:o.op=.call {callee:= .builtin .append,args:= #[s,x],argTypes:= #[t,t]})
  (O:Nat) (e:TypeId) (i:TypeInfo) (z:Value) (size bytes:Nat) (D:P.underlying t=some (.slice e)) (hi:P.info? e=some i) (E:i.zero=some z)
  (f:i.size=size) (p:i.bytes=bytes) (q:z.cells.size=size) (r:0<size)
  (v:Value) (n:Nat) (S:List Value) (F:a.eval s=v) (k:w.ownsRow O e size v n S)
  (B:Nat) (A:Option Addr) (m c:Nat) (b:List Value) (G:a.eval x= A m c) (H:Rd w B A m size b) (I:∀u∈b,u.oneCell'=true)
  (y:n+m<=maxLen) (d:(n+m)*bytes<=140737488355328) (g:O<=w)
  (h:∀j w',w'.ownsRow O e size j (n+m) (S++b)->w.grownBy w' v.ownBlock->(j.ownBlock=v.ownBlock\/j.ownBlock=some w.heap.size)->wpList P R Q rest (a.put o.dst j) w'):wpList P R Q (o::rest) a w:=
 wpList_plain l λ_ N=>EI w s x t C O e i z size bytes D hi E f p q r v n S F k B A m c b G H I y d g λj w' K L M=>N _ _ (h j w' K L M)
theorem mY {O:Array Oper}{o:Oper}{a:Act}{K:Act->World->Prop}{Q:Exit->Act->World->Prop}{E:Prop}(l:o.guard=none)(s x:Operand)(t:TypeId)
  (C:o.op=.call {callee:= .builtin .append,args:= #[s,x],argTypes:= #[t,t]})
  (N:Nat) (e:TypeId) (i:TypeInfo) (z:Value) (size bytes:Nat) (D:P.underlying t=some (.slice e)) (hi:P.info? e=some i) (F:i.zero=some z)
  (f:i.size=size) (p:i.bytes=bytes) (q:z.cells.size=size) (r:0<size)
  (v:Value) (n:Nat) (R:List Value) (G:a.eval s=v) (j:w.ownsRow N e size v n R)
  (B:Nat) (A:Option Addr) (m c:Nat) (b:List Value) (H:a.eval x= A m c) (I:Rd w B A m size b) (M:∀u∈b,u.oneCell'=true)
  (y:n+m<=maxLen) (d:(n+m)*bytes<=140737488355328) (g:N<=w)
  (h:∀k w',w'.ownsRow N e size k (n+m) (R++b)->w.grownBy w' v.ownBlock->(k.ownBlock=v.ownBlock\/k.ownBlock=some w.heap.size)->K (a.put o.dst k) w'):
  if Region.wanted o (yielded O a.tmps)=true then Oper.wp P o a w K Q else E:=by
 have L:Region.wanted o (yielded O a.tmps)=true:=by simp[Region.wanted,l]
 rw[if_pos L];exact EI w s x t C N e i z size bytes D hi F f p q r v n R G j B A m c b H I M y d g h
end
theorem gj {w':World}{e:TypeId}{v:Value}{n:Nat}{f:List Value}(h:a.ownsRow d e b v n f)(size:Below a a w'):w'.ownsRow d e b v n f:=h.kept (row:=none) ⟨size.os,size.tape,size.output,size.size,λk w _=>size.block k w⟩ (by cases c:v.ownBlock<;>simp)
theorem kQ {row:Option Nat}(h:a.grownBy W row)(n:Nat):a.grownBy (W.drewN n) row:=⟨h.os,h.tape,h.output,h.size,h.block⟩
theorem jI {row:Option Nat}(h:a.grownBy W row)(o:Obj):a.grownBy (W.alloc o) row:=⟨h.os,h.tape,h.output,nt h.size (by simp),λi hi b=>(Below.heap_alloc W o i (mz hi h.size)).trans (h.block i hi b)⟩
theorem aX {row:Option Nat}(h:a.grownBy W row){p:Addr}(hp:row=some p.block\/a.heap.size<=p.block)(u:Value):a.grownBy (W.setCell p u) row:=
 ⟨h.os,h.tape,h.output,by simpa [World.setCell]using h.size,λi hi b=>(Below.heap_setCell W p u i (by
  rintro rfl;rcases hp with hp|hp
  .exact b hp.symm
  omega)).trans (h.block i hi b)⟩
theorem az (h:Below a a W)(row:Option Nat):a.grownBy W row:=⟨h.os,h.tape,h.output,h.size,λi hi _=>h.block i hi⟩
theorem px {e f:TypeId}{s x:Nat}{v i:Value}{n m:Nat}{y c:List Value}(h:a.ownsRow b e s v n y)(o:a.ownsRow d f x i m c)(w:e≠f):
  v.ownBlock=none\/v.ownBlock≠i.ownBlock:=by
 rcases h.2 with⟨rfl,_⟩|⟨g,p,q,rfl,_,r,_⟩
 .exact .inl rfl
 rcases o.2 with⟨rfl,_⟩|⟨u,j,k,rfl,_,l,_⟩
 .exact .inr (by simp[Value.ownBlock])
 refine .inr ?_;simp only[Value.ownBlock,ne_eq,n'];rintro rfl;rw[r]at l;injection l with l
 injection l with _ t
 exact w t
abbrev P3:=Int×Int×List UInt8
abbrev P2:=Int×Int
def cI (z:Int):Value:= .int .i64 z
def c3 (p:P3):List Value:=[.int .i64 p.1,.int .i64 p.2.1,.string p.2.2]
def c2 (p:P2):List Value:=[.int .i64 p.1,.int .i64 p.2]
def dP (a:List P3):List Value:=a.flatMap c3
def aC (zs:List Int):List Value:=zs.map cI
def zk (zs:List Bool):List Value:=zs.map Value.bool
theorem Lt (a:List P3):(dP a).length=a.length*3:=by
 induction a with
 |nil=>rfl
 |cons p a b=>simp[dP,c3]at b ⊢;omega
theorem Df (a b:List P3):dP (a++b)=dP a++dP b:=by simp[dP]
theorem LS (a:List P3)(k:Nat)(p:P3)(h:a[k]?=some p):
  (dP a)[k*3]?=some (.int .i64 p.1)/\(dP a)[k*3+1]?=some (.int .i64 p.2.1)/\(dP a)[k*3+2]?=some (.string p.2.2):=by
 induction a generalizing k with
 |nil=>simp at h
 |cons q a b=>
  cases k with
  |zero=>simp at h;subst h;simp[dP,c3]
  |succ k=>
   have:=b k (by simpa using h);have e:dP (q::a)=c3 q++dP a:=rfl;simp only[e];refine⟨?_,?_,?_⟩<;>rw[ri (by simp[c3];omega)]<;>simp only[c3,aV,ln]
   .rw[show(k+1)*3 - (0+1+1+1)=k*3 by omega];exact this.1
   .rw[show(k+1)*3+1 - (0+1+1+1)=k*3+1 by omega];exact this.2.1
   rw[show(k+1)*3+2 - (0+1+1+1)=k*3+2 by omega];exact this.2.2
theorem Br (zs:List Int):∀u∈aC zs,u.oneCell'=true:=by intro u a;simp only[aC,mN]at a;obtain⟨p,_,rfl⟩:=a;rfl
theorem Nj (zs:List Int)(k:Nat)(z:Int)(h:zs[k]?=some z):(aC zs)[k]?=some (.int .i64 z):=by simp[aC,h,cI]
theorem VX (zs:List Bool)(k:Nat)(z:Bool)(h:zs[k]?=some z):(zk zs)[k]?=some (.bool z):=by simp[zk,h]
section
variable {w:World} {B n:Nat} {A:Option Addr}
theorem Rd.rB {a:List P3}(h:Rd w B A n 3 (dP a)){k:Nat}(m:k<n):
  ∃b o x y z,A=some ⟨b,o,none⟩/\b<B/\Hid (a[k]?=some (x,y,z))/\w.cell? ⟨b,o+k*3,none⟩=some (.int .i64 x)/\
   w.cell? ⟨b,o+k*3+1,none⟩=some (.int .i64 y)/\w.cell? ⟨b,o+k*3+2,none⟩=some (.string ⟨z.toArray⟩):=by
 obtain⟨b,o,e,f,c⟩:=h.2 (by omega);have g:=h.1;rw[Lt]at g;have d:a[k]?=some (a[k]'(by omega)):=jO (by omega);obtain⟨i,j,l⟩:=LS a k _ d;exact⟨b,o,_,_,_,e,f,d,c _ _ i,c _ _ j,c _ _ l⟩
theorem Rd.uq {zs:List Int}(h:Rd w B A n 1 (aC zs)){k:Nat}(g:k<n):
  ∃b o x,A=some ⟨b,o,none⟩/\b<B/\Hid (zs[k]?=some x)/\w.cell? ⟨b,o+k,none⟩=some (.int .i64 x):=by
 obtain⟨b,o,e,c,d⟩:=h.2 (by omega);have f:=h.1;simp[aC]at f;have a:zs[k]?=some (zs[k]'(by omega)):=jO (by omega);exact⟨b,o,_,e,c,a,d _ _ (Nj zs k _ a)⟩
theorem Rd.rk {zs:List Bool}(h:Rd w B A n 1 (zk zs)){k:Nat}(g:k<n):
  ∃b o x,A=some ⟨b,o,none⟩/\b<B/\Hid (zs[k]?=some x)/\w.cell? ⟨b,o+k,none⟩=some (.bool x):=by
 obtain⟨b,o,e,c,d⟩:=h.2 (by omega);have f:=h.1;simp[zk]at f;have a:zs[k]?=some (zs[k]'(by omega)):=jO (by omega);exact⟨b,o,_,e,c,a,d _ _ (VX zs k _ a)⟩
theorem Rd.Z {a:List P3}(h:Rd w B A n 3 (dP a)):a.length=n:=by have:=h.1;rw[Lt]at this;omega
theorem Rd.vB {zs:List Int}(h:Rd w B A n 1 (aC zs)):zs.length=n:=by have:=h.1;simp[aC]at this;omega
end
abbrev B:=List UInt8
def blank (c:UInt8):Bool:=c==32||c==9
structure St where
 iB:Nat
 fr:Nat
 cur:B
 told:List (Nat×B)
def p':St:=⟨0,0,[],[]⟩
def St.ns (σ :St):List (Nat×B):=if σ.cur=[]then []else [(σ.fr,σ.cur)]
def St.all (σ :St):List (Nat×B):= σ.told++ σ.ns
def step (σ :St)(c:UInt8):St:=
 if blank c then⟨σ.iB+1,0,[],σ.all⟩
 else⟨σ.iB+1,if σ.cur=[]then σ.iB else σ.fr,σ.cur++[c],σ.told⟩
def code (l:B):B:=l.takeWhile (λc=>c !=35)
def run (l:B):St:=l.foldl step p'
def one (l:B):List (Nat×B):=(run (code l)).all
theorem wQ (l:B)(c:UInt8):run (l++[c])=step (run l) c:=by simp[run]
theorem AD (l:B):(run l).iB=l.length:=by
 suffices h:∀(σ :St),(l.foldl step σ).iB= σ.iB+l.length by simpa [run,p']using h p'
 induction l with
 |nil=>intro σ;simp
 |cons c r a=>intro σ;rw[o0,a];unfold step;split<;>simp<;>omega
theorem Xg (l:B):(run l).cur≠[]->(run l).fr+(run l).cur.length=l.length/\l.drop (run l).fr=(run l).cur:=by
 suffices h:∀k,k<=l.length->(run (l.take k)).cur≠[]->(run (l.take k)).fr+(run (l.take k)).cur.length=k/\(l.take k).drop (run (l.take k)).fr=(run (l.take k)).cur by simpa using h l.length (ae _)
 intro k;induction k with
 |zero=>intro _ h;simp[run,p']at h
 |succ k c=>
  intro d;have e:l.take (k+1)=l.take k++[l[k]]:=by rw[re (by omega)]
  rw[e,wQ];have b:=AD (l.take k);rw[ot,Nat.min_eq_left (by omega)]at b;unfold step;split
  .intro h;simp at h
  intro _;by_cases a:(run (l.take k)).cur=[]
  .simp only[a,b,if_true,pG,aV,ln];refine⟨by simp,?_⟩;rw[List.drop_append,sj (by rw[ot];omega),ot,Nat.min_eq_left (by omega)];simp
  have:=c (by omega) a;simp only[a,if_false,la,aV,ln];refine⟨by omega,?_⟩;rw[List.drop_append_of_le_length (by rw[ot];omega),this.2]
theorem Ep (σ :St)(a:B)(e: σ.cur≠[])(b:∀c∈a,blank c=false):a.foldl step σ =⟨σ.iB+a.length,σ.fr,σ.cur++a,σ.told⟩:=by
 induction a generalizing σ with
 |nil=>cases σ;simp
 |cons c r f=>rw[o0,f _ (by unfold step;simp[b c (by simp)]) (λd g=>b d (by simp[g]))];unfold step;simp[b c (by simp),e];omega
def iU:B->List B
 |[]=>[[]]
 |c::r=>if c=10 then []::iU r else match iU r with|p::a=>(c::p)::a|[]=>[[c]]
theorem Ub (l:B):iU l≠[]:=by
 cases l with
 |nil=>simp[iU]
 |cons c r=>
  rw[iU];split
  .simp
  split<;>simp
theorem I' (l:B)(h:∀c∈l,c≠10):iU l=[l]:=by
 induction l with
 |nil=>rfl
 |cons c r a=>rw[iU,if_neg (h c (by simp)),a (λd b=>h d (by simp[b]))]
theorem Xa (a b:B)(h:∀c∈a,c≠10):iU (a++10::b)=a::iU b:=by
 induction a with
 |nil=>simp[iU]
 |cons c r e=>rw[nw,iU,if_neg (h c (by simp)),e (λd f=>h d (by simp[f]))]
abbrev Wd:=Int×Int×B
def num (n:Nat)(l:List (Nat×B)):List Wd:=l.map (λx=>((n:Int),(x.1:Int),x.2))
def bY:Nat->List B->List (List Wd)
 |_,[]=>[]
 |n,p::a=>(if one p=[]then []else [num n (one p)])++bY (n+1) a
def iH (l:B):List (List Wd):=bY 1 (iU l)
theorem Ql (n:Nat)(a b:List B):bY n (a++b)=bY n a++bY (n+a.length) b:=by
 induction a generalizing n with
 |nil=>simp[bY]
 |cons p c d=>simp only[nw,bY,d,aV,mL];rw[show n+1+c.length=n+(c.length+1) by omega]
theorem UY (s:ByteArray)(c:Nat)(h:c<s.size):c+(Utf8.decode s c).2<=s.size/\∀k,1<=k->k<(Utf8.decode s c).2->128<=(s.get! (c+k)).toNat:=by
 have d:∀k,(decide (c+k<s.size) && (s.get! (c+k)).toNat / 64==2)=true->c+k<s.size/\128<=(s.get! (c+k)).toNat:=by intro k i;simp at i;omega
 simp only[Utf8.decode];split
 .exact⟨by simp;omega,λk f g=>by simp at g;omega⟩
 split
 .rename_i e;simp only[np]at e;have f:=d 1 (by simpa using e.2);split
  .exact⟨by simp;omega,λk a b=>by
    simp at b;obtain rfl:k=1:=by omega
    exact f.2⟩
  exact⟨by simp;omega,λk a b=>by simp at b;omega⟩
 split
 .rename_i e;simp only[np]at e;have f:=d 1 (by simpa using e.1.2);have g:=d 2 (by simpa using e.2);split
  .exact⟨by simp;omega,λk a b=>by
    simp at b;obtain rfl|rfl:k=1\/k=2:=by omega
    .exact f.2
    exact g.2⟩
  exact⟨by simp;omega,λk a b=>by simp at b;omega⟩
 split
 .rename_i e;simp only[np]at e;have f:=d 1 (by simpa using e.1.1.2);have g:=d 2 (by simpa using e.1.2);have j:=d 3 (by simpa using e.2);split
  .exact⟨by simp;omega,λk a b=>by
    simp at b;obtain rfl|rfl|rfl:k=1\/k=2\/k=3:=by omega
    .exact f.2
    .exact g.2
    exact j.2⟩
  exact⟨by simp;omega,λk a b=>by simp at b;omega⟩
 exact⟨by simp;omega,λk a b=>by simp at b;omega⟩
