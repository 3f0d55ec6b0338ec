/- Lemmas. -/
import Derived.Test.YtkijckccfookeaaDoorAb
import Derived.WalkKit
import Derived.Deep.AppendLies
import Derived.Deep.Draws
set_option linter.unusedVariables false
set_option linter.unusedSimpArgs false
namespace Go.Proofs.YtkijckccfookeaaDoor
section
open Go.RowKit
def Rd (w:World)(B:Nat)(A:Option Addr)(n size:Nat)(cs:List Value):Prop:=cs.length=n*size/\(0<n->∃b o,A=some ⟨b,o,none⟩/\b<B/\∀j u,cs[j]? =some u->w.cell? ⟨b,o+j,none⟩=some u)
section
variable {w w':World} {B B' size n:Nat} {A:Option Addr} {cs:List Value}
theorem Rd.nil (w:World)(B size:Nat)(A:Option Addr):Rd w B A 0 size []:=⟨by simp,fun h=>absurd h (by omega)⟩
theorem Rd.keep (h:Rd w B A n size cs)(hk:∀b,b<B->w'.heap[b]? =w.heap[b]?):Rd w' B A n size cs:=
 ⟨h.1,fun hn=>by
  obtain⟨b,o,e,hb,hc⟩:=h.2 hn;exact⟨b,o,e,hb,fun j u hu=>(World.cell?_of_block (a:=⟨b,o+j,none⟩) (hk _ hb)).trans (hc j u hu)⟩⟩
theorem Rd.mono (h:Rd w B A n size cs)(hB:B<=B'):Rd w B' A n size cs:=⟨h.1,fun hn=>by obtain⟨b,o,e,hb,hc⟩:=h.2 hn;exact⟨b,o,e,by omega,hc⟩⟩
theorem Rd.below {C:Nat}(h:Rd w B A n size cs)(hb:Below C w w')(hC:B<=C):Rd w' B A n size cs:=h.keep fun b hb'=>hb.block b (by omega)
theorem Rd.drewN (h:Rd w B A n size cs)(k:Nat):Rd (w.drewN k) B A n size cs:=h
theorem Rd.drew (h:Rd w B A n size cs):Rd w.drew B A n size cs:=h
theorem Rd.alloc (h:Rd w B A n size cs)(hB:B<=w.heap.size)(o:Obj):Rd (w.alloc o) B A n size cs:=h.keep fun b hb=>Below.heap_alloc w o b (by omega)
theorem Rd.setCell (h:Rd w B A n size cs){p:Addr}(hB:B<=p.block)(u:Value):Rd (w.setCell p u) B A n size cs:=h.keep fun b hb=>Below.heap_setCell w p u b (by omega)
theorem Rd.grown (h:Rd w B A n size cs){row:Option Nat}(hg:w.grownBy w' row)(hB:B<=w.heap.size)(hr:∀g,row=some g->B<=g):Rd w' B A n size cs:=h.keep fun b hb=>hg.block b (by omega) (fun e=>by have:=hr _ e.symm;omega)
theorem Rd.afr {base:Nat}{e:TypeId}{v:Value}(h:w.ownsRow base e size v n cs):∃A c,v= .slice A n c/\Rd w w.heap.size A n size cs:=by
 rcases h.2 with⟨rfl,rfl⟩|⟨g,cap,cur,rfl,hb,hg,hnc,hcm,hcs,htake⟩
 ·refine⟨none,0,rfl,h.1,fun h=>absurd h (by omega)⟩
 refine⟨some ⟨g,0,none⟩,cap,rfl,h.1,fun hn=>⟨g,0,rfl,(agI.1 hg).1,fun j u hu=> ?_⟩⟩;have:=h.cells (g:=g) rfl j u hu;by_cases hj:j=0
 ·subst hj;simpa [Addr.add] using this
 simpa [Addr.add,hj] using this
end
theorem below_drewN {B:Nat}{a w:World}(h:Below B a w)(n:Nat):Below B a (w.drewN n):=⟨h.os,h.tape,h.output,h.size,h.block⟩
theorem aP {W w1:World}(hb:Below W.heap.size W w1):(∀b o,b<W.heap.size->w1.cell? ⟨b,o,none⟩=W.cell? ⟨b,o,none⟩)/\(∀b o,b<W.heap.size->w1.frozen? ⟨b,o,none⟩=W.frozen? ⟨b,o,none⟩):=⟨fun b o h=>hb.cell (p:=⟨b,o,none⟩) h,fun b o h=>hb.frozen (p:=⟨b,o,none⟩) h⟩
theorem addr_add (b o j:Nat):(⟨b,o,none⟩:Addr).add j=⟨b,o+j,none⟩:=by unfold Addr.add;by_cases hj:j=0<;>simp[hj]
section
variable {P:Program} (w:World)
theorem qH (base:Nat)(t ty e:TypeId)(i:TypeInfo)(size:Nat)(ht:P.underlying t=some (.slice e))(hi:P.info? e=some i)
  (v:Value) (n:Nat) (xs:List Value) (hown:w.ownsRow base e size v n xs) (c:Nat):(Builtin.append_ #[t,t] ty #[v,.slice none 0 c]).run P w= .ok v w:=by
 rcases hown.2 with⟨rfl,rfl⟩|⟨g,cap,cur,rfl,_,_,hnc,_⟩
 ·simp[Builtin.append_,run_underlying ht,sizeOf,typeInfo,hi,Builtin.lenOf,Builtin.firstCells]
 simp[Builtin.append_,run_underlying ht,sizeOf,typeInfo,hi,Builtin.lenOf,Builtin.firstCells,hnc,storeCells]
theorem uo (base:Nat)(t ty e:TypeId)(i:TypeInfo)(z:Value)(size bytes:Nat)(ht:P.underlying t=some (.slice e))(hi:P.info? e=some i)(hz:i.zero=some z)
  (hsize:i.size=size) (hby:i.bytes=bytes) (hzs:z.cells.size=size) (hsz:0<size)
  (v:Value) (n:Nat) (xs:List Value) (hown:w.ownsRow base e size v n xs)
  (B:Nat) (A:Option Addr) (m c:Nat) (news:List Value) (hr:Rd w B A m size news) (h1:∀u∈news,u.oneCell'=true)
  (h63:n+m<=maxLen) (hbytes:(n+m)*bytes<=140737488355328) (hbase:base<=w.heap.size):
  ∃v' w',(Builtin.append_ #[t,t] ty #[v,.slice A m c]).run P w= .ok v' w'/\w'.ownsRow base e size v' (n+m) (xs++news)/\w.grownBy w' v.ownBlock/\
   (v'.ownBlock=v.ownBlock\/v'.ownBlock=some w.heap.size):=by
 rcases A with _|ad
 ·have hm:m=0:=by
   rcases Nat.eq_zero_or_pos m with h0|h0
   ·exact h0
   obtain⟨b,o,h,_⟩:=hr.2 h0;cases h
  subst hm;have hn:news=[]:=List.eq_nil_of_length_eq_zero (by simpa using hr.1);subst hn;exact⟨v,w,qH w base t ty e i size ht hi v n xs hown c,by simpa using hown,World.grownBy.refl w _,.inl rfl⟩
 have hcells:∀j u,news[j]? =some u->w.cell? (ad.add j)=some u:=by
  intro j u hu;rcases Nat.eq_zero_or_pos m with h0|h0
  ·subst h0;have hn:news=[]:=List.eq_nil_of_length_eq_zero (by simpa using hr.1);subst hn;simp at hu
  obtain⟨b,o,h,_,hc⟩:=hr.2 h0;injection h with h
  subst h;rw[addr_add];exact hc j u hu
 obtain⟨v',w',hrun,h2,h3,_,h5⟩:=run_append_own_at (P:=P) w base t ty e i z size bytes ht hi hz hsize hby hzs hsz v n xs hown ad m c news hr.1 hcells h1 h63 hbytes hbase;exact⟨v',w',hrun,h2,h3,h5⟩
theorem vT {o:Oper}{a:Act}{K:Act->World->Prop}{Q:Exit->Act->World->Prop}(s x:Operand)(t:TypeId)
  (ho:o.op= .call {callee:= .builtin .append,args:= #[s,x],argTypes:= #[t,t]})
  (base:Nat) (e:TypeId) (i:TypeInfo) (z:Value) (size bytes:Nat) (ht:P.underlying t=some (.slice e)) (hi:P.info? e=some i) (hz:i.zero=some z)
  (hsize:i.size=size) (hby:i.bytes=bytes) (hzs:z.cells.size=size) (hsz:0<size)
  (v:Value) (n:Nat) (xs:List Value) (hs:a.eval s=v) (hown:w.ownsRow base e size v n xs)
  (B:Nat) (A:Option Addr) (m c:Nat) (news:List Value) (hx:a.eval x= .slice A m c) (hr:Rd w B A m size news) (h1:∀u∈news,u.oneCell'=true)
  (h63:n+m<=maxLen) (hbytes:(n+m)*bytes<=140737488355328) (hbase:base<=w.heap.size)
  (h:∀v' w',w'.ownsRow base e size v' (n+m) (xs++news)->w.grownBy w' v.ownBlock->(v'.ownBlock=v.ownBlock\/v'.ownBlock=some w.heap.size)->K (a.put o.dst v') w'):o.wp P a w K Q:=by
 obtain⟨v',w',hrun,h2,h3,h4⟩:=uo (P:=P) w base t o.type e i z size bytes ht hi hz hsize hby hzs hsz v n xs hown B A m c news hr h1 h63 hbytes hbase;unfold Oper.wp execOp;simp only[ho,resolve,invoke,builtin,Sem.run_bind,Sem.run_pure,Result.andThen_ok,List.map_toArray,agO,ahk,hs,hx,hrun];exact h v' w' h2 h3 h4
theorem jL {ops:Array Oper}{rest:List Oper}{o:Oper}{a:Act}{Q:Exit->Act->World->Prop}(hgd:o.guard=none)(s x:Operand)(t:TypeId)
  (ho:o.op= .call {callee:= .builtin .append,args:= #[s,x],argTypes:= #[t,t]})
  (base:Nat) (e:TypeId) (i:TypeInfo) (z:Value) (size bytes:Nat) (ht:P.underlying t=some (.slice e)) (hi:P.info? e=some i) (hz:i.zero=some z)
  (hsize:i.size=size) (hby:i.bytes=bytes) (hzs:z.cells.size=size) (hsz:0<size)
  (v:Value) (n:Nat) (xs:List Value) (hs:a.eval s=v) (hown:w.ownsRow base e size v n xs)
  (B:Nat) (A:Option Addr) (m c:Nat) (news:List Value) (hx:a.eval x= .slice A m c) (hr:Rd w B A m size news) (h1:∀u∈news,u.oneCell'=true)
  (h63:n+m<=maxLen) (hbytes:(n+m)*bytes<=140737488355328) (hbase:base<=w.heap.size)
  (h:∀v' w',w'.ownsRow base e size v' (n+m) (xs++news)->w.grownBy w' v.ownBlock->(v'.ownBlock=v.ownBlock\/v'.ownBlock=some w.heap.size)->wpList P ops Q rest (a.put o.dst v') w'):wpList P ops Q (o::rest) a w:=
 wpList_plain hgd fun _ hK=>vT w s x t ho base e i z size bytes ht hi hz hsize hby hzs hsz v n xs hs hown B A m c news hx hr h1 h63 hbytes hbase fun v' w' h2 h3 h4=>hK _ _ (h v' w' h2 h3 h4)
theorem jA {ops:Array Oper}{o:Oper}{a:Act}{K:Act->World->Prop}{Q:Exit->Act->World->Prop}{E:Prop}(hgd:o.guard=none)(s x:Operand)(t:TypeId)
  (ho:o.op= .call {callee:= .builtin .append,args:= #[s,x],argTypes:= #[t,t]})
  (base:Nat) (e:TypeId) (i:TypeInfo) (z:Value) (size bytes:Nat) (ht:P.underlying t=some (.slice e)) (hi:P.info? e=some i) (hz:i.zero=some z)
  (hsize:i.size=size) (hby:i.bytes=bytes) (hzs:z.cells.size=size) (hsz:0<size)
  (v:Value) (n:Nat) (xs:List Value) (hs:a.eval s=v) (hown:w.ownsRow base e size v n xs)
  (B:Nat) (A:Option Addr) (m c:Nat) (news:List Value) (hx:a.eval x= .slice A m c) (hr:Rd w B A m size news) (h1:∀u∈news,u.oneCell'=true)
  (h63:n+m<=maxLen) (hbytes:(n+m)*bytes<=140737488355328) (hbase:base<=w.heap.size)
  (h:∀v' w',w'.ownsRow base e size v' (n+m) (xs++news)->w.grownBy w' v.ownBlock->(v'.ownBlock=v.ownBlock\/v'.ownBlock=some w.heap.size)->K (a.put o.dst v') w'):
  if Region.wanted o (yielded ops a.tmps)=true then Oper.wp P o a w K Q else E:=by
 have hw:Region.wanted o (yielded ops a.tmps)=true:=by simp[Region.wanted,hgd]
 rw[if_pos hw];exact vT w s x t ho base e i z size bytes ht hi hz hsize hby hzs hsz v n xs hs hown B A m c news hx hr h1 h63 hbytes hbase h
end
theorem own_below {w w':World}{base:Nat}{e:TypeId}{size:Nat}{v:Value}{n:Nat}{xs:List Value}(h:w.ownsRow base e size v n xs)(hb:Below w.heap.size w w'):w'.ownsRow base e size v n xs:=h.kept (row:=none) ⟨hb.os,hb.tape,hb.output,hb.size,fun k hk _=>hb.block k hk⟩ (by cases hv:v.ownBlock<;>simp)
theorem BK {a w:World}{row:Option Nat}(h:a.grownBy w row)(n:Nat):a.grownBy (w.drewN n) row:=⟨h.os,h.tape,h.output,h.size,h.block⟩
theorem Bv {a w:World}{row:Option Nat}(h:a.grownBy w row)(o:Obj):a.grownBy (w.alloc o) row:=⟨h.os,h.tape,h.output,nt h.size (by simp),fun i hi hne=>(Below.heap_alloc w o i (agN hi h.size)).trans (h.block i hi hne)⟩
theorem bU {a w:World}{row:Option Nat}(h:a.grownBy w row){p:Addr}(hp:row=some p.block\/a.heap.size<=p.block)(u:Value):a.grownBy (w.setCell p u) row:=
 ⟨h.os,h.tape,h.output,by simpa [World.setCell] using h.size,fun i hi hne=>(Below.heap_setCell w p u i (by
  rintro rfl;rcases hp with hp|hp
  ·exact hne hp.symm
  omega)).trans (h.block i hi hne)⟩
theorem dm {a w:World}(h:Below a.heap.size a w)(row:Option Nat):a.grownBy w row:=⟨h.os,h.tape,h.output,h.size,fun i hi _=>h.block i hi⟩
abbrev P3:=Int×Int×List UInt8
abbrev P2:=Int×Int
def cI (z:Int):Value:= .int .i64 z
def c3 (p:P3):List Value:=[.int .i64 p.1,.int .i64 p.2.1,.string ⟨p.2.2.toArray⟩]
def c2 (p:P2):List Value:=[.int .i64 p.1,.int .i64 p.2]
def TU (ps:List P3):List Value:=ps.flatMap c3
def aN (zs:List Int):List Value:=zs.map cI
def uB (zs:List Bool):List Value:=zs.map Value.bool
theorem abR (zs:List Int):∀u∈aN zs,u.oneCell'=true:=by intro u hu;simp only[aN,ag7] at hu;obtain⟨p,_,rfl⟩:=hu;rfl
theorem Dn (zs:List Int)(k:Nat)(z:Int)(h:zs[k]? =some z):(aN zs)[k]? =some (.int .i64 z):=by simp[aN,h,cI]
theorem Vd (zs:List Bool)(k:Nat)(z:Bool)(h:zs[k]? =some z):(uB zs)[k]? =some (.bool z):=by simp[uB,h]
section
variable {w:World} {B n:Nat} {A:Option Addr}
theorem Rd.atI {zs:List Int}(h:Rd w B A n 1 (aN zs)){k:Nat}(hk:k<n):
  ∃b o x,A=some ⟨b,o,none⟩/\b<B/\Hid (zs[k]? =some x)/\w.cell? ⟨b,o+k,none⟩=some (.int .i64 x):=by
 obtain⟨b,o,e,hb,hc⟩:=h.2 (by omega);have hl:=h.1;simp[aN] at hl;have hp:zs[k]? =some (zs[k]'(by omega)):=agH (by omega);exact⟨b,o,_,e,hb,hp,hc _ _ (Dn zs k _ hp)⟩
theorem Rd.agB {zs:List Int}(h:Rd w B A n 1 (aN zs)):zs.length=n:=by have:=h.1;simp[aN] at this;omega
end
end
section
abbrev B:=List UInt8
def blank (c:UInt8):Bool:=c==32||c==9
structure St where
 at':Nat
 fr:Nat
 cur:B
 told:List (Nat×B)
def st0:St:=⟨0,0,[],[]⟩
def St.pend (σ :St):List (Nat×B):=if σ.cur=[] then [] else [(σ.fr,σ.cur)]
def St.all (σ :St):List (Nat×B):= σ.told++ σ.pend
def step (σ :St)(c:UInt8):St:=
 if blank c then⟨σ.at'+1,0,[],σ.all⟩
 else⟨σ.at'+1,if σ.cur=[] then σ.at' else σ.fr,σ.cur++[c],σ.told⟩
def code (l:B):B:=l.takeWhile (fun c=>c !=35)
def run (l:B):St:=l.foldl step st0
def one (l:B):List (Nat×B):=(run (code l)).all
theorem Pm (σ :St)(seg:B)(hc: σ.cur≠[])(hs:∀c∈seg,blank c=false):seg.foldl step σ =⟨σ.at'+seg.length,σ.fr,σ.cur++seg,σ.told⟩:=by
 induction seg generalizing σ with
 |nil=>cases σ;simp
 |cons c r ih=>rw[ag4,ih _ (by unfold step;simp[hs c (by simp)]) (fun d hd=>hs d (by simp[hd]))];unfold step;simp[hs c (by simp),hc];omega
def Bl:B->List B
 |[]=>[[]]
 |c::r=>if c=10 then []::Bl r else match Bl r with|p::ps=>(c::p)::ps|[]=>[[c]]
theorem UD (a b:B)(h:∀c∈a,c≠10):Bl (a++10::b)=a::Bl b:=by
 induction a with
 |nil=>simp[Bl]
 |cons c r ih=>rw[agU,Bl,if_neg (h c (by simp)),ih (fun d hd=>h d (by simp[hd]))]
abbrev Wd:=Int×Int×B
def num (n:Nat)(l:List (Nat×B)):List Wd:=l.map (fun x=>((n:Int),(x.1:Int),x.2))
def pY:Nat->List B->List (List Wd)
 |_,[]=>[]
 |n,p::ps=>(if one p=[] then [] else [num n (one p)])++pY (n+1) ps
def Qd (l:B):List (List Wd):=pY 1 (Bl l)
end
end Go.Proofs.YtkijckccfookeaaDoor
