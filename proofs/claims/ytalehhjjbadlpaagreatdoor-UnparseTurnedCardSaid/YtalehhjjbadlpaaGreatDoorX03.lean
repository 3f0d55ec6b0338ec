/- Lemmas. -/
import Derived.Test.YtalehhjjbadlpaaGreatDoorX02
import Derived.Shelf.RegionOpen
import Derived.OwnWalkIn
import Derived.LoopNIn
import Derived.LoopIn
import Derived.Deep.RegionHeld3
import Derived.Deep.RegionLaw
import Derived.Lib.SlicesCompact
import Derived.WalkSmall
import Derived.Deep.LoopGhost
import Derived.Lib.SmallJoins
import Derived.Test.YtalehhjjbadlpaaGreatDoorRows
set_option linter.all false
set_option maxRecDepth 100000
set_option maxHeartbeats 32000000
namespace Go.Proofs.YtalehhjjbadlpaaGreatDoor
open Go.RowKit
variable{W b:World}{g d:Nat}{f:List Value}(v:World){u U:TypeId}{n:Array Value}{α:Type}{P:Program}{k:B}{A:Option Addr}{m:ByteArray}{i:List B}{c:Value}{h:Int}{j:St}
section
open Go.Shelf
attribute [local go_sem] Oper.semAt_some
theorem Fq (s:B)(h:∀c∈s,c≠10):Calls Tryz.prog 130 #[.string s,.string ⟨#[10]⟩] v λe a=>e=.returned (.int .i64 (-1))/\v=a:=by
 refine(Qa v s).mono ?_;rintro e a ⟨rfl,rfl⟩;refine⟨?_,rfl⟩;have:Lib.indexByte s 10= -1:=by
  by_cases b:Lib.indexByte s 10= -1
  .exact b
  have d:=Lib.indexByte_ge s 10;obtain⟨f,-⟩:=Lib.indexByte_some (l:=s) (c:=10) (o:=(Lib.indexByte s 10).toNat) (by omega);exact absurd rfl (h 10 (kj f))
 rw[this]
theorem Fo (s:B)(o:Nat)(h:s[o]?=some 10)(d:∀c∈s.take o,c≠10):Calls Tryz.prog 130 #[.string s,.string ⟨#[10]⟩] v λe b=>e=.returned (.int .i64 o)/\v=b:=by
 refine(Qa v s).mono ?_;rintro e b ⟨rfl,rfl⟩;refine⟨?_,rfl⟩;have:Lib.indexByte s 10=o:=by
  by_cases f:Lib.indexByte s 10= -1
  .exact absurd h (Lib.indexByte_none f o)
  have g:=Lib.indexByte_ge s 10;obtain⟨i,j⟩:=Lib.indexByte_some (l:=s) (c:=10) (o:=(Lib.indexByte s 10).toNat) (by omega);have k:¬(Lib.indexByte s 10).toNat<o:=λa=>d 10 (by
   rw[pn];exact⟨_,by rw[pY,if_pos a];exact i⟩) rfl
  have m:¬o<(Lib.indexByte s 10).toNat:=λa=>j o a h
  omega
 rw[this]
theorem Lo (s:B):(∀c∈s,c≠10)\/∃o,s[o]?=some 10/\∀c∈s.take o,c≠10:=by
 induction s with
 |nil=>left;simp
 |cons c r b=>
  by_cases a:c=10
  .right;exact⟨0,by simp[a],by simp⟩
  rcases b with h|⟨o,e,f⟩
  .left;intro d hd;rcases lx.1 hd with rfl|hd
   .exact a
   exact h d hd
  right;refine⟨o+1,by simpa using e,λd hd=> ?_⟩;rw[List.take_succ_cons]at hd;rcases lx.1 hd with rfl|hd
  .exact a
  exact f d hd
theorem Sx (s:B)(o:Nat)(h:s[o]?=some 10)(a:∀c∈s.take o,c≠10):iU s=s.take o::iU (s.drop (o+1)):=by have:=MY s 0 o h (by omega) (by simpa using a);simpa using this
theorem MF (s:B):(iU s).length<=s.length+1:=by
 induction s with
 |nil=>simp[iU]
 |cons c r a=>
  rw[iU];split
  .simp;omega
  split<;>rename_i h<;>rw[h]at a<;>simp at a ⊢;omega
theorem RoundIn.deep {k:Nat}{f:FuncId}{assign body:Code}{R:Ending->World->Prop}(h:RoundIn Fence.wide d P g f n assign body W R):RoundIn Fence.wide k P g f n assign body W R:=⟨h.1,λc b _=>h.2 c b (λ_ a=>by cases a)⟩
def om (W:World)(b:Nat):Nat:=match W.cell? (b,0)with|some (.string s)=>s.size|_=>0
theorem PP (h:Bk W g 9 #[.string k]):om W g=k.length:=by have:W.cell? (g,0)=some (.string k):=h.cell 0;simp[om,this];rfl
abbrev Ln:= {x:B // x.length<=800000000}
def Qx (x:Ln):Array Value:= #[.string x.1]
def XK (h:Nat)(b:Nat):Prop:=b=h\/b=h+1\/b=h+1+1
theorem JI {T:Nat->Prop}(h:nQ T W b)(c:T g)(d:Bk W g u n):Bk b g u n:=h g c _ d rfl
theorem FQ (h:Nat)(s:B)(hs:s.length<=800000000)(q:Bk v h 9 #[.string s])(u:Bk v (h+1) 9 #[.string ⟨#[10]⟩])(G:Bk v (h+1+1) 3 #[.int .i64 0]):
  ZN Tryz.prog h 128 #[.pointer (some ⟨h+1,0,none⟩),.pointer (some ⟨h,0,none⟩),.pointer (some ⟨h+1+1,0,none⟩)] Qx (nQ (XK h)) (λH _=>H.map (·.1)=iU s) (λH=>H.map (·.1)<+:iU s) (s.length+1) v:=by
 intro l n ad Bx W hn hl I S w P T;have x:Bk W h 9 _:=(I.block _ q.lt).trans q;have y:Bk W (h+1) 9 _:=(I.block _ u.lt).trans u;have D:Bk W (h+1+1) 3 _:=(I.block _ G.lt).trans G;have U:W.cell? ⟨h+1,0,none⟩=some (.string ⟨#[10]⟩):=y.cell 0;have Q:=J P;have K:=J w;clear q u G S P w;refine callsIn_of_wp Tryz.func128 rfl trivial ?_ rfl;simp only[Tryz.ntmps128,List.size_toArray,aV,ln,Nat.reduceAdd,Nat.reduceSub,Array.replicate_succ,Array.replicate_zero,List.push_toArray,List.append_toArray,pG,nw]
 gi_wp2
 gi_loopw [7] (λ_ wr=>∃(a:B) (b:List Ln),ad b wr/\Bk wr h 9 #[.string a]/\Bk wr (h+1) 9 #[.string ⟨#[10]⟩]/\Bk wr (h+1+1) 3 #[.int .i64 0]/\Hid (b.map (·.1)++iU a=iU s)/\a.length<=s.length) (λ_ wr=>om wr h)
 case atStart=>exact⟨s,[],T,x,y,D,rfl,ae _⟩
 case round=>
  obtain⟨a,b,k,x,y,D,p,V⟩:=hrel;have k1:wr.cell? ⟨h,0,none⟩=some (.string a):=x.cell 0;have U:wr.cell? ⟨h+1,0,none⟩=some (.string ⟨#[10]⟩):=y.cell 0;have k3:wr.cell? ⟨h+1+1,0,none⟩=some (.int .i64 0):=D.cell 0;rcases Lo a with c|⟨o,E,c⟩
  .have d:Hid ((b++[(⟨a,by omega⟩:Ln)]).map (·.1)=iU s):=by
    have:=p.out;rw[I' a c]at this;show _=_;simpa using this
   have j:=J (Fq wr a c);have f:b.length<s.length+1:=by have q:=congrArg List.length d;have u:=MF s;simp at q;omega
   obtain⟨X,z,m,A,L,M⟩:=Q b ⟨a,by omega⟩ wr k f;simp only[Qx]at L;clear c k
   gi_wp2_with fail
   refine⟨trivial,λ_=>by omega,?_⟩;refine(callsIn_wide.2 j).mono ?_;rintro e Y ⟨rfl,rfl⟩
   gi_wp2_with fail
   refine⟨λh=>(by cases h),?_⟩;refine(RoundIn.deep M).mono ?_;rintro e C (⟨rfl,r,F,g⟩|⟨rfl,t,N,g⟩)
   .clear g
    gi_wp2_with fail
    go_end0
    exact⟨⟨_,rfl⟩,.inl ⟨_,d,r⟩⟩
   clear g
   gi_wp2_with fail
   go_end0
   exact⟨⟨_,rfl⟩,.inr ⟨_,⟨[],by rw[pp];exact d⟩,t⟩⟩
  have i:Hid ((b++[(⟨a.take o,by simp;omega⟩:Ln)]).map (·.1)++iU (a.drop (o+1))=iU s):=by have:=p.out;rw[Sx a o E c]at this;show _=_;simpa using this
  have Z:o<a.length:=(ll.1 E).1;have j:=J (Fo wr a o E c);have f:b.length<s.length+1:=by have q:=congrArg List.length i;have u:=MF s;simp at q;omega
  obtain⟨X,z,m,A,L,M⟩:=Q b ⟨a.take o,by simp;omega⟩ wr k f;simp only[Qx]at L;have aa:(ByteArray.mk a.toArray).extract 0 o=⟨(a.take o).toArray⟩:=by rw[lm,List.drop_zero]
  have ab:(ByteArray.mk a.toArray).extract (o+1) a.length=⟨(a.drop (o+1)).toArray⟩:=by rw[lm,lf]
  have hz:decide ((o:Int)<0)=false:=by simp
  clear E c k
  gi_wp2_with fail
  refine⟨trivial,λ_=>by omega,?_⟩;refine(callsIn_wide.2 j).mono ?_;rintro e Y ⟨rfl,rfl⟩
  gi_wp2_with fail
  refine⟨λh=>(by cases h),?_⟩;refine(RoundIn.deep M).mono ?_;rintro e C (⟨rfl,r,F,g⟩|⟨rfl,t,N,g⟩)
  .have O:=JI F (.inl rfl) x;have c2:=JI F (.inr (.inl rfl)) y;have c3:=JI F (.inr (.inr rfl)) D;have q1:C.cell? ⟨h,0,none⟩=some (.string a):=O.cell 0;have q2:C.cell? ⟨h+1,0,none⟩=some (.string ⟨#[10]⟩):=c2.cell 0;have q3:C.frozen? ⟨h,0,none⟩=false:=O.frozen 0;have hm:Hid (om wr h=a.length):=PP x;have R:Bk (C.setCell ⟨h,0,none⟩ (.string (a.drop (o+1)))) h 9 #[.string (a.drop (o+1))]:=O.set 0 _;clear g
   gi_wp2_with fail
   go_roundw
   case rel=>exact⟨a.drop (o+1),_,K _ _ _ r,R,c2.I (by simp) _,c3.I (by simp;omega) _,i,by simp;omega⟩
   case measure=>rw[PP R,hm.out,tw];omega
  clear g
  gi_wp2_with fail
  refine bodyPost_ret (results_none rfl _ _ _) rfl ?_;exact⟨⟨_,rfl⟩,.inr ⟨_,⟨_,i⟩,t⟩⟩
end
section
attribute [-go_sem] Builtin.append_
theorem OP:(Tryz.prog.info? 101).map (λi=>(i.zero,i.size,i.bytes))=some (some (.agg #[.int .i64 0,.int .i64 0,.string ⟨#[]⟩]),3,32):=by kernel_rfl
def qz (h:Nat)(s:B)(n:Nat)(f:Int)(a:List P3)(W:World):Prop:=
 Bk W h 9 #[.string s]/\Bk W (h+1) 3 #[n]/\Bk W (h+1+1+1) 3 #[f]/\
  ∃A c,Bk W (h+1+1) 96 #[.slice A a.length c]/\W.ownsRow (h+1+1+1+1) 101 3 (.slice A a.length c) a.length (dP a)
def BG (h:Nat)(s:B)(n:Nat)(b:List P3)(W:World)(e:Ending)(a:World):Prop:=e=.returned (.tuple #[])/\qz h s n (-1) b a/\Below h W a/\KeepsOthers W a
theorem Mx (h:Nat)(s:B)(n t:Nat)(k:List P3)(g:qz h s n (-1) k v):
  Calls Tryz.prog 88 #[t,.pointer (h+1+1+1,0),.pointer (h+1+1,0),.pointer (h+1,0),.pointer (h,0)] v (BG h s n k v):=by
 obtain⟨b,d,a,A,c,e,f⟩:=g;have c3:v.cell? (h+1+1+1,0)=some (.int .i64 (-1)):=a.cell 0;have j:=a.frozen 0;have i:Hid (BG h s n k v (.returned (.tuple #[])) (v.setCell (h+1+1+1,0) (.int .i64 (-1)))):=by refine⟨rfl,⟨b.I (by simp;omega) _,d.I (by simp) _,a.set 0 _,A,c,e.I (by simp) _,?_⟩,(gD _ _).setCell (by simp;omega) _,KeepsOthers.setCell _ _ _⟩;exact ownsRow_setCell_below f (by simp) _
 clear b d e f;go_enter Tryz.func88,Tryz.ntmps88
 go_wp2
 go_end0
 exact i
theorem Mp (h:Nat)(s:B)(n f t:Nat)(ws:List P3)(V:qz h s n f ws v)(X:f<=t)(Y:t<=s.length)(hs:s.length<=800000000)(hw:ws.length<=800000000):
  Calls Tryz.prog 88 #[t,.pointer (h+1+1+1,0),.pointer (h+1+1,0),.pointer (h+1,0),.pointer (h,0)] v (BG h s n (ws++[((n:Int),(f:Int),(s.take t).drop f)]) v):=by
 obtain⟨Z,u,W,w,x⟩:=info_parts OP;obtain⟨I,ad,q,A,c,r,y⟩:=V;have k1:v.cell? (h,0)=some (.string s):=I.cell 0;have k2:v.cell? (h+1,0)=some (.int .i64 n):=ad.cell 0;have k3:v.cell? (h+1+1+1,0)=some (.int .i64 f):=q.cell 0;have k4:v.cell? (h+1+1,0)=some (A ws.length c):=r.cell 0;have zl:=q.lt;have K:(ByteArray.mk s.toArray).extract f t=⟨((s.take t).drop f).toArray⟩:=lm s f t;obtain⟨T,Q⟩:∃T,(s.take t).drop f=T:=⟨_,rfl⟩
 rw[Q]at K ⊢;clear Q;have i:Hid (∀k,k<h+1+1+1+1->some k≠(Value.slice A ws.length c).ownBlock):=λk D e=>by have:=(y.lt k e.symm).1;omega
 have R:Hid (∀(E:Value) (b:World),b.ownsRow (h+1+1+1+1) 101 3 E (ws.length+1) (dP ws++[.int .i64 n,.int .i64 f,.string ⟨T.toArray⟩])->(v.alloc (.cells #[n,f,.string ⟨T.toArray⟩] 101)).drew.grownBy b (Value.slice A ws.length c).ownBlock->
   BG h s n (ws++[((n:Int),(f:Int),T)]) v (.returned (.tuple #[])) ((b.setCell (h+1+1,0) E).setCell (h+1+1+1,0) (.int .i64 (-1)))):=by
  intro E b m L;obtain⟨F,G,rfl,-⟩:=Rd.U m;have H:∀k,k<h+1+1+1+1->b.heap[k]?=v.heap[k]? :=λk D=>(L.block k (by simp;omega) (i k D)).trans (Below.heap_alloc _ _ _ (by omega))
  have b1:Bk b h 9 _:=(H _ (by omega)).trans I;have b2:Bk b (h+1) 3 _:=(H _ (by omega)).trans ad;have z:Bk b (h+1+1+1) 3 _:=(H _ (by omega)).trans q;have C:Bk b (h+1+1) 96 _:=(H _ (by omega)).trans r;refine⟨rfl,⟨(b1.I (by simp;omega) _).I (by simp;omega) _,(b2.I (by simp) _).I (by simp) _,(z.I (by simp) _).set 0 _,F,G,?_,?_⟩,?_,?_⟩
  .have:=(C.set 0 (F (ws.length+1) G)).I (p:=(h+1+1+1,0)) (by simp) (.int .i64 (-1));simpa using this
  .have:=ownsRow_setCell_below (ownsRow_setCell_below m (a:=(h+1+1,0)) (by simp) (F (ws.length+1) G)) (a:=(h+1+1+1,0)) (by simp) (.int .i64 (-1));rw[Df];simpa [dP,c3]using this
  .exact((((gD h v).alloc (by omega) _).drew.grown L (by simp;omega) (λg M=>by have:=(y.lt g M).1;omega)).setCell (by simp;omega) _).setCell (by simp;omega) _
  have ka:KeepsOthers v (v.alloc (.cells #[n,f,.string ⟨T.toArray⟩] 101)).drew:=⟨(KeepsOthers.alloc v _).size,(KeepsOthers.alloc v _).same⟩
  refine KeepsOthers.trans (KeepsOthers.trans (KeepsOthers.trans ka (KeepsOthers.of_grownBy L (λj o hj S=> ?_))) (KeepsOthers.setCell _ _ _)) (KeepsOthers.setCell _ _ _);obtain⟨aa,D⟩:=iI (y.alloc (.cells #[n,f,.string ⟨T.toArray⟩] 101)) j hj;have N:(v.alloc (.cells #[n,f,.string ⟨T.toArray⟩] 101)).drew.heap[j]?=_:=D;rw[N]at S;cases S;rfl
 obtain⟨E,b,U,d,l,-⟩:=rC (P:=Tryz.prog) ((v.alloc (.cells #[n,f,.string ⟨T.toArray⟩] 101)).drew) (h+1+1+1+1) 96 96 101 Z _ 3 32 Tryz.underlying96 u W w x rfl (by decide) (A ws.length c) ws.length (dP ws) (y.alloc _).drew (v.heap.size+1) (v,0) 1 1 [.int .i64 n,.int .i64 f,.string ⟨T.toArray⟩] (Rd.drew (Rd.newAt _ _ (by simp) #[n,f,.string ⟨T.toArray⟩] 101 1 3 rfl)) (by simp[Value.oneCell']) (by simp only[maxLen];omega) (by omega) (by simp;omega);obtain⟨F,G,rfl,-⟩:=Rd.U d;have O:=J (R _ _ d l);have C:Bk b (h+1+1) 96 #[A ws.length c]:=(l.block (h+1+1) (by simp;omega) (i _ (by omega))).trans (r.alloc _);have x4:b.cell? (h+1+1,0)=some (A ws.length c):=C.cell 0;have y4:b.frozen? (h+1+1,0)=false:=C.frozen 0;have z:Bk b (h+1+1+1) 3 #[f]:=(l.block (h+1+1+1) (by simp;omega) (i _ (by omega))).trans (q.alloc _);have x3:b.cell? (h+1+1+1,0)=some (.int .i64 f):=z.cell 0;have y3:b.frozen? (h+1+1+1,0)=false:=z.frozen 0;have q4:(v.alloc (.cells #[n,f,.string ⟨T.toArray⟩] 101)).cell? (h+1+1,0)=some (A ws.length c):=(r.alloc _).cell 0;clear d l z C I ad q r y i R u W w x;go_enter Tryz.func88,Tryz.ntmps88
 go_wp2_with fail
 go_region
 all_goals
  go_wp2
  go_end0
  exact O
end
def strs (a:List B):List Value:=a.map λs=> .string ⟨s.toArray⟩
theorem DW (a b:List B):strs (a++b)=strs a++strs b:=by simp[strs]
theorem zS (a:List B):(strs a).length=a.length:=by simp[strs]
theorem J3 (b:List B):∀u∈strs b,u.oneCell'=true:=by intro u a;simp only[strs,mN]at a;obtain⟨p,_,rfl⟩:=a;rfl
theorem Xq (S:Bs)(c:List B):Fl rt 1 v S (strs c) c:=
 ⟨by simp[strs],λk x b=>⟨[.string ⟨x.toArray⟩],rfl,rfl,λj u a=>by
  cases j with
  |zero=>simp at a;subst a;simp[strs,b]
  |succ j=>simp at a⟩⟩
def nF (w:World)(g:Nat)(b:List Value):Prop:=∃t a,w.heap[g]?=some (.cells b.toArray t a)
theorem nF.cell {w:World}(h:nF w g f)(i:Nat):w.cell? (g,i)=f[i]? :=by obtain⟨t,a,h⟩:=h;simp[World.cell?,h]
theorem nF.lt (h:nF W g f):g<W.heap.size:=by obtain⟨t,a,h⟩:=h;exact(mq.1 h).1
theorem nF.below {w w':World}(h:nF w g f)(a:Below d w w')(b:g<d):nF w' g f:=by obtain⟨t,c,h⟩:=h;exact⟨t,c,(a.block g b).trans h⟩
theorem lO (h:i[g]?=some k):(strs i)[g]?=some (.string k):=by simp[strs,h]
structure RV where
 v:Value
 n:Nat
 xs:List Value
variable{r:RV}
def RV.nil:RV:=⟨.slice none 0 0,0,[]⟩
def kT:Nat->TypeId
 |0=>52
 |1=>62
 |2=>65
 |3=>73
 |4=>75
 |5=>80
 |6=>50
 |7=>3
 |8=>196
 |9=>3
 |10=>54
 |11=>56
 |12=>58
 |13=>60
 |_=>69
def kS:Nat->Nat
 |0=>9
 |1=>2
 |2=>3
 |3=>2
 |4=>4
 |5=>1
 |6=>1
 |7=>1
 |8=>3
 |9=>1
 |10=>3
 |11=>4
 |12=>4
 |13=>2
 |_=>6
def nM (t:TypeId):Bool:=[52,62,65,73,75,80,50,3,196,54,56,58,60,69,77,71,22].contains t
theorem yN (j:Nat):nM (kT j)=true:=by unfold kT;split<;>decide
theorem yr (j:Nat):0<kS j:=by unfold kS;split<;>decide
abbrev Rows:=Nat->RV
variable{z l:Rows}
def iK (a:Rows)(i:Nat)(r:RV):Rows:=λj=>if j=i then r else a j
theorem ke (a:Rows)(i:Nat)(r:RV):iK a i r i=r:=by simp[iK]
theorem iC (a:Rows)(r:RV)(h:d≠g):iK a g r d=a d:=by simp[iK,h]
structure Live (w:World)(Bd:Nat)(rv:Rows):Prop where
 own:∀j,j<15->w.ownsRow Bd (kT j) (kS j) (rv j).v (rv j).n (rv j).xs
 apart:∀i j,i<15->j<15->i≠j->∀g,(rv i).v.ownBlock=some g->(rv j).v.ownBlock≠some g
def Fz (w:World)(c:Rows):Bs:=λb=>∃a t,Bk w b t a/\nM t=true/\∀j,j<15->(c j).v.ownBlock≠some b
structure Tr (w:World)(rv:Rows)(w':World)(rv':Rows):Prop where
 same:Same (Fz w rv) w w'
 sub:∀b,Fz w rv b->Fz w' rv' b
theorem Tr.refl (w:World)(a:Rows):Tr w a w a:=⟨Same.refl _ _,λ_ h=>h⟩
theorem Tr.trans {c:World}{a:Rows}(h:Tr W z b l)(k:Tr b l c a):Tr W z c a:=⟨λg d=>(k.same g (h.sub g d)).trans (h.same g d),λg d=>k.sub g (h.sub g d)⟩
theorem Tr.rel {R:Rel α}(a:R.Ok){w':World}{c:List Value}{x:α}(h:Tr W z w' l)(k:R W (Fz W z) c x):R w' (Fz w' l) c x:=a.mono (a.keep k h.same) h.sub
theorem Tr.sl {R:Rel α}(a:R.Ok){w':World}{c:Rows}{e:List α}(h:Tr W z w' c)(k:Sl R g W (Fz W z) A e):Sl R g w' (Fz w' c) A e:=(k.keep a h.same).mono a h.sub
theorem Tr.V {R:Rel α}(a:R.Ok){w':World}{c:Rows}{w:List α}(h:Tr W z w' c)(k:Fl R g W (Fz W z) f w):Fl R g w' (Fz w' c) f w:=(k.keep a h.same).mono a h.sub
theorem dY {w:World}{c:Nat}{e:TypeId}{d:Nat}{v:Value}{n:Nat}{f:List Value}(h:w.ownsRow c e d v n f){g:Nat}(b:v.ownBlock=some g):∃a,Bk w g e a:=iI h g b
theorem dw {a:Array Value}(h:Bk W g u n)(k:Bk W g U a):u=U/\n=a:=by
 unfold Bk at h k;rw[h]at k;injection k with k
 injection k with c d
 exact⟨d,c⟩
theorem Live.keep {w':World}{n:Rows}(h:Live W g n)(i:∀j,j<15->∀o,(n j).v.ownBlock=some o->w'.heap[o]?=W.heap[o]?):Live w' g n:=
 ⟨λj f=>by
  obtain⟨k,b⟩:=h.own j f;refine⟨k,?_⟩;rcases b with b|⟨o,c,d,e,l,m,a⟩
  .exact .inl b
  exact .inr ⟨o,c,d,e,l,(i j f o (by rw[e];rfl)).trans m,a⟩,h.apart⟩
theorem Live.below {w w':World}(h:Live w d z)(a:Below w w w'):Live w' d z:=h.keep λj b g c=>a.block g ((h.own j b).lt g c).2
theorem Tr.below {w w':World}(c:Below w w w'):Tr w z w' z:=⟨λb ⟨d,t,a,_⟩=>c.block b a.lt,λb ⟨d,t,a,e,f⟩=>⟨d,t,(c.block b a.lt).trans a,e,f⟩⟩
theorem Live.other {w':World}{k:Nat}(h:Live W k l){row:Option Nat}(c:W.grownBy w' row)(d:∀g,row=some g->∀t m,Bk W g t m->nM t=false):Live w' k l:=
 h.keep λj b g a=>c.block g ((h.own j b).lt g a).2 (λe=>by
  obtain⟨f,i⟩:=dY (h.own j b) a;have:=d g e.symm _ _ i;rw[yN]at this;cases this)
theorem Tr.other {w':World}{row:Option Nat}(h:W.grownBy w' row)(i:∀g,row=some g->∀t k,Bk W g t k->nM t=false):Tr W l w' l:=by
 have a:∀b,Fz W l b->w'.heap[b]?=W.heap[b]? :=λb ⟨k,t,c,d,_⟩=>h.block b c.lt (λe=>by
  have:=i b e.symm _ _ c;rw[d]at this;cases this)
 exact⟨a,λb j=>by
  obtain⟨k,t,c,d,f⟩:=j;exact⟨k,t,(a b ⟨k,t,c,d,f⟩).trans c,d,f⟩⟩
theorem Live.row {w':World}{rv:Rows}(h:Live W g rv){i:Nat}(hi:i<15){r:RV}(s:W.grownBy w' (rv i).v.ownBlock)(t:w'.ownsRow g (kT i) (kS i) r.v r.n r.xs)(hl:r.v.ownBlock=(rv i).v.ownBlock\/∀y,r.v.ownBlock=some y->W.heap.size<=y):Live w' g (iK rv i r):=by
 have p:∀j,j<15->j≠i->(rv j).v.ownBlock=none\/(rv j).v.ownBlock≠(rv i).v.ownBlock:=λj f c=>by
  cases k:(rv j).v.ownBlock with
  |none=>exact .inl rfl
  |some y=>exact .inr (λe=>h.apart j i f hi c y k e.symm)
 have d:∀j,j<15->j≠i->∀y,(rv j).v.ownBlock=some y->r.v.ownBlock≠some y:=λj f c y k e=>by
  rcases hl with hl|hl
  .rw[hl]at e;exact h.apart j i f hi c y k e
  have:=hl y e;have:=((h.own j f).lt y k).2;omega
 refine⟨λj f=> ?_,λa b q k l y=> ?_⟩
 .by_cases c:j=i
  .subst c;rw[ke];exact t
  rw[iC _ _ c];exact(h.own j f).kept s (p j f c)
 by_cases m:a=i
 .subst m;rw[ke,iC _ _ (Ne.symm l)];intro u x;exact d b k (Ne.symm l) y x u
 rw[iC _ _ m];by_cases o:b=i
 .subst o;rw[ke];exact d a q m y
 rw[iC _ _ o];exact h.apart a b q k l y
theorem Tr.row {w':World}{rv:Rows}{i:Nat}(hi:i<15){r:RV}(l:W.grownBy w' (rv i).v.ownBlock)(hl:r.v.ownBlock=(rv i).v.ownBlock\/∀g,r.v.ownBlock=some g->W.heap.size<=g):Tr W rv w' (iK rv i r):=by
 have a:∀b,Fz W rv b->w'.heap[b]?=W.heap[b]? :=λb ⟨h,t,c,k,d⟩=>l.block b c.lt (λe=>d i hi e.symm)
 refine⟨a,λb m=> ?_⟩;obtain⟨h,t,c,k,d⟩:=m;refine⟨h,t,(a b ⟨h,t,c,k,d⟩).trans c,k,λj n=> ?_⟩;by_cases f:j=i
 .subst f;rw[ke];rcases hl with hl|hl
  .rw[hl];exact d j hi
  intro e;have:=hl b e;have:=c.lt;omega
 rw[iC _ _ f];exact d j n
theorem Live.drop {p:Rows}(h:Live W g p)(i:Nat):Live W g (iK p i RV.nil):=by
 refine⟨λj l=> ?_,λa b m n k o=> ?_⟩
 .by_cases c:j=i
  .subst c;rw[ke];exact World.ownsRow_nil W g _ _
  rw[iC _ _ c];exact h.own j l
 by_cases d:a=i
 .subst d;rw[ke];intro e;cases e
 rw[iC _ _ d];by_cases f:b=i
 .subst f;rw[ke];intro _ e;cases e
 rw[iC _ _ f];exact h.apart a b m n k o
theorem Tr.drop (k:Rows)(i:Nat):Tr v k v (iK k i RV.nil):=
 ⟨Same.refl _ _,λb ⟨c,t,d,f,g⟩=>⟨c,t,d,f,λj h=>by
  by_cases a:j=i
  .subst a;rw[ke];intro e;cases e
  rw[iC _ _ a];exact g j h⟩⟩
theorem Sl.pk {R:Rel α}{S:Bs}{z:List α}{n c:Nat}(h:W.ownsRow d u g (A n c) n f)(w:Fl R g W S f z)(i:∀v,(Value.slice A n c).ownBlock=some v->S v)(a:0<g):Sl R g W S A z:=by
 refine⟨f,w,λk=> ?_⟩;rcases h.2 with⟨b,l⟩|⟨v,m,o,b,r,s,t,-⟩
 .have y:=h.1;have p:=w.1;subst l;simp only[Nat.zero_mul,List.length_eq_zero_iff]at y;subst y;have:=Nat.mul_pos k a;rw[<-p]at this;simp at this
 simp only[oa,true_and]at b;obtain⟨rfl,rfl⟩:=b;refine⟨v,0,rfl,i v rfl,λj e q=> ?_⟩;have:=h.cells (g:=v) rfl j e q
 rwa [jt]at this
theorem Live.X3 {k:Rows}(h:Live W g k){i:Nat}(hi:i<15):∀l,(k i).v.ownBlock=some l->Fz W (iK k i RV.nil) l:=by
 intro l c;obtain⟨b,d⟩:=dY (h.own i hi) c;refine⟨b,kT i,d,yN i,λj f=> ?_⟩;by_cases a:j=i
 .subst a;rw[ke];intro e;cases e
 rw[iC _ _ a];exact h.apart i j hi f (Ne.symm a) l c
theorem W9 {n c s:Nat}(h:W.ownsRow g u d (.slice (s,0) n c) n f)(i:Nat)(r:Value):
  (W.setCell (s,i) r).ownsRow g u d (.slice (s,0) n c) n (f.set i r):=by
 refine⟨by simpa using h.1,?_⟩;rcases h.2 with⟨a,p⟩|⟨q,t,b,a,w,j,k,l,m,o⟩
 .cases a
 simp only[oa,n',Addr.mk.injEq,and_true,true_and]at a;obtain⟨rfl,rfl⟩:=a;refine .inr ⟨s,c,b.setIfInBounds i r,rfl,w,Bk.set j i r,k,l,by simpa using m,?_⟩;rw[Array.toList_setIfInBounds,List.take_set,o]
theorem fZ (p:Addr)(u:Value):v.grownBy (v.setCell p u) (some p.block):=⟨rfl,rfl,rfl,by simp[World.setCell],λk _ a=>Below.heap_setCell v p u k (λe=>a (by rw[e]))⟩
theorem mP {n:Nat}(h:W.ownsRow d u g c n f):∃A i,c=.slice A n i:=by
 rcases h.2 with⟨rfl,rfl⟩|⟨v,a,b,rfl,_⟩
 .exact⟨none,0,rfl⟩
 exact⟨_,_,rfl⟩
theorem Mw (s:B)(m:s.length<=800000000):Calls Tryz.prog 138 #[.string s,.string ⟨#[45]⟩] v λe f=>e=.returned (.tuple #[.string (iJ s),.bool (signed s)])/\v=f:=by
 cases s with
 |nil=>
  go_enter Tryz.func138,Tryz.ntmps138
  go_wp2
  go_ret2
  exact⟨rfl,rfl⟩
 |cons c r=>
  have g:(ByteArray.mk (c::r).toArray).extract 0 1=⟨[c].toArray⟩:=by rw[lm];simp
  have i:(ByteArray.mk (c::r).toArray).extract 1 (r.length+1)=⟨r.toArray⟩:=by rw[lm];simp
  by_cases a:c=45
  .subst a;go_enter Tryz.func138,Tryz.ntmps138
   go_wp2
   go_ret2
   exact⟨rfl,rfl⟩
  have j:(c==45)=false:=by simpa using a
  have b:iJ (c::r)=c::r/\signed (c::r)=false:=by
   rcases zU (c::r)with⟨n,h,_⟩|⟨k,l,_⟩
   .injection h with h _
    exact absurd h a
   exact⟨k,l⟩
  have d:=J b;clear b a;go_enter Tryz.func138,Tryz.ntmps138
  go_wp2
  go_ret2
  rw[d.out.1,d.out.2];exact⟨rfl,rfl⟩
theorem ZF (s:B):(iJ s).length<=s.length:=by
 rcases zU s with⟨r,a,b,-⟩|⟨h,-⟩
 .rw[b,a];simp
 rw[h];exact ae _
theorem MR (d:B)(k:Nat)(f:k<=9)(h:∀j c,j<k->d[j]?=some c->iF c=true):qo (d.take k)<1000000000:=by
 have a:=Xw (d.take k) (λc b=>by
  obtain⟨i,hi⟩:=pn.1 b;rw[pY]at hi;split at hi
  .exact h i c ‹_› hi
  cases hi)
 have e:10 ^ (d.take k).length<=10 ^ 9:=Nat.pow_le_pow_right (by omega) (by rw[ot];omega);exact mz a e
theorem UZ (d:B)(k:Nat)(c:UInt8)(b:d[k]?=some c)(f:iF c=true)(h:∀j c,j<k->d[j]?=some c->iF c=true):∀j c,j<k+1->d[j]?=some c->iF c=true:=by
 intro j e g he;by_cases a:j=k
 .subst a;rw[b]at he;cases he;exact f
 exact h j e (by omega) he
theorem Fm (d:B)(k:Nat)(c:UInt8)(a:d[k]?=some c):qo (d.take (k+1))=10*qo (d.take k)+(c.toNat - 48):=by obtain⟨b,e⟩:=ll.1 a;rw[re b,e,Bi]
theorem X4 (d:B)(h:∀j c,j<d.length->d[j]?=some c->iF c=true):∀c∈d,iF c=true:=by intro c a;obtain⟨i,hi⟩:=pn.1 a;exact h i c (ll.1 hi).1 hi
def G6 (s:B)(w:World)(e:Ending)(w':World):Prop:=e=.returned (.tuple #[.int .i64 (aI s),.bool (yI s)])/\Below w w w'
theorem ZH (s:B)(I:s.length<=800000000):Calls Tryz.prog 131 #[.string s] v (G6 s v):=by
 have R:=ZF s;have hcut:=Mw v s I;have a:Hid (∀n,(wM (iJ s)=false->Below v v n->G6 s v (.returned (.tuple #[.int .i64 0,.bool false])) n)/\
   (wM (iJ s)=true->signed s=true->Below v v n->G6 s v (.returned (.tuple #[.int .i64 (-(qo (iJ s):Int)),.bool true])) n)/\
   (wM (iJ s)=true->signed s=false->Below v v n->G6 s v (.returned (.tuple #[.int .i64 (qo (iJ s):Int),.bool true])) n)):=by
  intro n;refine⟨λh l=>⟨?_,l⟩,λh C l=>⟨?_,l⟩,λh C l=>⟨?_,l⟩⟩
  .simp[aI,yI,h]
  .simp[aI,yI,h,C]
  simp[aI,yI,h,C]
 generalize iJ s=d at*
 generalize signed s=W at*
 have t:=J hcut;clear hcut;by_cases hl:d.length<1\/9<d.length
 .have f:=J (Kx d hl);go_enter Tryz.func131,Tryz.ntmps131
  go_wp2_with fail
  refine t.mono ?_;rintro e n ⟨rfl,rfl⟩;rcases hl with hl|hl
  .go_wp2
   go_ret2
   exact(a _).1 f (gD _ _)
  go_wp2
  go_ret2
  exact(a _).1 f (gD _ _)
 have K:1<=d.length:=by omega
 have L:d.length<=9:=by omega
 clear hl;go_enter Tryz.func131,Tryz.ntmps131
 go_wp2_with fail
 refine t.mono ?_;rintro e n ⟨rfl,rfl⟩;go_wp2;go_loopw [6] (λw wr=>∃k N:Nat,wr=v.iter ⟨d.toArray⟩ k/\k<=d.length/\w=.int .i64 (N:Int)/\Hid (N=qo (d.take k))/\∀j c,j<k->d[j]?=some c->iF c=true) (λ_ wr=>d.length - wr.iterPos v.heap.size)
 case atStart=>exact⟨0,0,rfl,by omega,rfl,rfl,by omega⟩
 case round=>
  obtain⟨k,N,rfl,S,rfl,z,b⟩:=hrel;by_cases i:k<d.length
  .obtain⟨c,p⟩:∃c,d[k]?=some c:=⟨_,jO i⟩
   have l:=byte_at d k c p i;have E:N<=999999999:=by have:=MR d k (by omega) b;rw[<-z.out]at this;omega
   by_cases M:c.toNat<128
   .have o:∀m,(Instr.next (.pointer (v,0)) true m).run Tryz.prog (v.iter ⟨d.toArray⟩ k)=_:=λm=>run_next_ascii v ⟨d.toArray⟩ k m i (by rw[l];exact M)
    rw[l]at o;by_cases g:iF c=true
    .have u:Hid (∀w:Int,w=10*(N:Int)+((c.toNat:Int) - 48)->∃A H:Nat,v.iter ⟨d.toArray⟩ (k+1)=v.iter ⟨d.toArray⟩ A/\A<=d.length/\Value.int .i64 w=.int .i64 (H:Int)/\Hid (H=qo (d.take A))/\∀j c,j<A->d[j]?=some c->iF c=true):=by
      intro w O;have P:=(oH c).1 g;refine⟨k+1,10*N+(c.toNat - 48),rfl,by omega,?_,?_,UZ d k c p g b⟩
      .rw[O];congr 1
       omega
      show _=_;rw[Fm d k c p,z.out]
     obtain⟨T,U⟩:=(oH c).1 g;clear p b l g;go_wp2;go_roundw
     case rel=>exact u _ (by omega)
     case measure=>simp;omega
    have f:=J (WT d c (kj p) (by simpa using g));have Q:¬(48<=c.toNat/\c.toNat<=57):=λh=>g ((oH c).2 h)
    have hq2:(c.toNat:Int)<48\/57<(c.toNat:Int):=by omega
    clear p b l g Q;rcases hq2 with hq2|hq2
    .go_wp2
     go_ret2
     exact(a _).1 f (mi _ _ _)
    go_wp2
    go_ret2
    exact(a _).1 f (mi _ _ _)
   obtain⟨F,-⟩:=decode_high ⟨d.toArray⟩ k i (by rw[l];omega);have G:=decode_le ⟨d.toArray⟩ k;have o:∀m,(Instr.next (.pointer (v,0)) true m).run Tryz.prog (v.iter ⟨d.toArray⟩ k)=_:=λm=>run_next_any v ⟨d.toArray⟩ k m i
   have f:=J (WT d c (kj p) (by rw[<-Bool.not_eq_true,oH];omega));clear p b l;generalize Utf8.decode ⟨d.toArray⟩ k=D at*
   obtain⟨r,V⟩:=D;simp only at F G o;go_wp2
   go_ret2
   exact(a _).1 f (mi _ _ _)
  obtain rfl:k=d.length:=by omega
  have q:=J (TL d (X4 d b) K L);have E:N<=999999999:=by have:=MR d d.length (by omega) b;rw[<-z.out]at this;omega
  have x:Hid (qo d=N):=by show _=_;rw[z.out,lf]
  have o:∀m,(Instr.next (.pointer (v,0)) true m).run Tryz.prog (v.iter ⟨d.toArray⟩ d.length)=_:=λm=>run_next_end v ⟨d.toArray⟩ d.length m i
  clear b;cases W with
  |true=>
   have y:=J ((a (v.iter ⟨d.toArray⟩ d.length)).2.1 q rfl (mi _ _ _));rw[x.out]at y;go_wp2
   go_ret2
   exact y
  |false=>
   have y:=J ((a (v.iter ⟨d.toArray⟩ d.length)).2.2 q rfl (mi _ _ _));rw[x.out]at y;go_wp2
   go_ret2
   exact y
theorem OK:(Tryz.prog.info? 96).map (λi=>(i.zero,i.size,i.bytes))=some (some (.slice none 0 0),1,24):=by kernel_rfl
theorem OL:(Tryz.prog.info? 101).map (λi=>(i.zero,i.size,i.bytes))=some (some (.agg #[.int .i64 0,.int .i64 0,.string ⟨#[]⟩]),3,32):=by kernel_rfl
theorem wU (wr:World)(x y:Int)(z:B)(nq:Nat):∃a,(wr.alloc (.cells #[x,y,.string z] 101)).drewN nq=a/\Below wr wr a/\a.cell? (wr,0)=some (.int .i64 x)/\a.cell? (wr,1)=some (.int .i64 y)/\a.cell? (wr,2)=some (.string z)/\wr.heap.size+1<=a.heap.size:=
 have k:=Bk.new wr 101 #[x,y,.string z]
 ⟨_,rfl,below_drewN ((gD _ _).alloc (ae _) _) nq,k.cell 0,k.cell 1,k.cell 2,by simp⟩
theorem UQ (ws:List P3)(Bd:Nat)(A:Option Addr)(n c:Nat)(hr:Rd v Bd A n 3 (dP ws))(hB:Bd<=v)(hn:n<=1000000000):
  Calls Tryz.prog 95 #[A n c] v (iO 101 96 v ws):=by
 obtain⟨i0,aa,ab,ac,ad⟩:=info_parts OK;obtain⟨j0,al,ao,ap,aq⟩:=info_parts OL;have ak:=J hr.Z;go_enter Tryz.func95,Tryz.ntmps95
 go_wp2;go_loopw [4,5,6,13] (λw r o i wr=>∃k:Nat,k<=n/\i=.int .i64 k/\((o=.bool false/\sN 101 96 v ws k w wr)\/(o=.bool true/\yX 101 96 v ws k w r wr))) (λ_ _ _ i _=>n - (intOf i).toNat)
 case atStart=>exact⟨0,by omega,rfl,.inl ⟨rfl,Ox _ _ _ _ _ _ ⟨rfl,.inl ⟨rfl,rfl⟩⟩ (gD _ _)⟩⟩
 case round=>
  obtain⟨k,hk,rfl,a⟩:=hrel;by_cases ar:k<n
  .obtain⟨b,o,x,y,z,rfl,aE,U,G,H,I⟩:=hr.rB ar;rcases a with⟨rfl,a⟩|⟨rfl,a⟩
   .have s:Below v v wr:=by obtain⟨_,_,_,_,_,_,h⟩:=a;exact h
    have Q:wr.cell? ⟨b,o+k*3,none⟩=some (.int .i64 x):=(s.cell (p:=⟨b,o+k*3,none⟩) (by simp;omega)).trans G;have R:wr.cell? ⟨b,o+k*3+1,none⟩=some (.int .i64 y):=(s.cell (p:=⟨b,o+k*3+1,none⟩) (by simp;omega)).trans H;have S:wr.cell? ⟨b,o+k*3+2,none⟩=some (.string z):=(s.cell (p:=⟨b,o+k*3+2,none⟩) (by simp;omega)).trans I;by_cases d:z=[91]
    .have V:(z==[91])=true:=by simp[d]
     have E:(z==[93])=false:=by rw[d];decide
     have m:=E;have T:=J (λ(f aL:World) (B:Below wr.heap.size wr f) (h5:aL.ownsRow f.heap.size 101 3 (.slice none 0 0) 0 []) av=>Qs a U d B aL h5 av);clear d m G H I a;go_wp2_with fail
     go_quiet (fail)
     obtain⟨f,e,j,r1,r2,r3,C⟩:=wU wr x y z nq;rw[e];clear e Q R S;go_wp2;go_roundw
     case rel=>exact⟨k+1,by omega,by simp,.inr ⟨rfl,T f f j ⟨rfl,.inl ⟨rfl,rfl⟩⟩ (gD _ _)⟩⟩
     case measure=>simp[intOf];omega
    have V:(z==[91])=false:=by simpa using d
    by_cases m:z=[93]
    .have E:(z==[93])=true:=by simp[m]
     have g:=J (λ(f:World) (B:Below wr.heap.size wr f)=>UE a U m B);clear d m G H I a;go_wp2_with fail
     go_quiet (fail)
     obtain⟨f,e,j,r1,r2,r3,C⟩:=wU wr x y z nq;rw[e];clear e Q R S;go_wp2
     go_ret2
     exact g f j
    have E:(z==[93])=false:=by simpa using m
    obtain⟨K,L,g1,g2,F,M,N⟩:=a;obtain⟨O,P,rfl,-⟩:=Rd.U F;have T:=J (λW X v6 f aL B aw ay q hg=>Ov (t:=101) (tr:=96) (A5:=W) (c5:=X) (v6:=v6) (W1:=f) (W2:=aL) g1 g2 F M N U d m B aw ay q hg (by decide));clear d m G H I g2;have s6:=N.size;go_wp2_with fail
    go_quiet (fail)
    obtain⟨f,e,j,r1,r2,r3,C⟩:=wU wr x y z nq;rw[e];clear e Q R S;go_wp2_with (at_builtin;refine iq _ rfl (.tmp 23) (.tmp 26) 86 rfl v.heap.size 96 i0 _ 1 24 Tryz.underlying86 aa ab ac ad rfl (by decide) (.slice O L.length P) L.length L rfl (((gj F j).alloc _).alloc _) ((f.heap.size+1)+1) (some ⟨(f.heap.size+1),0,none⟩) 1 1 [.slice (some ⟨f.heap.size,0,none⟩) 1 1] rfl (by exact Rd.newAt _ _ (by simp) #[.slice (some ⟨f.heap.size,0,none⟩) 1 1] 96 1 1 rfl) (by simp[Value.oneCell']) (by simp only[maxLen];omega) (by omega) (by simp;omega) ?_;intro v2 w2 l D _)
    go_roundw
    case rel=>
     refine⟨k+1,by omega,by simp,.inl ⟨rfl,T _ _ _ ((f.alloc (.cells #[x,y,.string z] 101)).alloc (.cells #[.slice (some ⟨f.heap.size,0,none⟩) 1 1] 96)) _ ?_ ?_ (ae 1) l D⟩⟩
     .exact(j.alloc (by omega) _).alloc (by simp;omega) _
     exact(i7.new f #[x,y,.string z] 101 1 3 rfl).alloc _
    case measure=>simp[intOf];omega
   have s:Below v v wr:=by obtain⟨_,_,_,_,_,_,_,_,_,h6,h7,_⟩:=a;exact h6.trans (h7.mono h6.size)
   have Q:wr.cell? ⟨b,o+k*3,none⟩=some (.int .i64 x):=(s.cell (p:=⟨b,o+k*3,none⟩) (by simp;omega)).trans G;have R:wr.cell? ⟨b,o+k*3+1,none⟩=some (.int .i64 y):=(s.cell (p:=⟨b,o+k*3+1,none⟩) (by simp;omega)).trans H;have S:wr.cell? ⟨b,o+k*3+2,none⟩=some (.string z):=(s.cell (p:=⟨b,o+k*3+2,none⟩) (by simp;omega)).trans I;by_cases d:z=[91]
   .have V:(z==[91])=true:=by simp[d]
    have E:(z==[93])=false:=by rw[d];decide
    have m:=E;have g:=J (λ(f:World) (B:Below wr.heap.size wr f)=>UC a U d B);clear d m G H I a;go_wp2_with fail
    go_quiet (fail)
    obtain⟨f,e,j,r1,r2,r3,C⟩:=wU wr x y z nq;rw[e];clear e Q R S;go_wp2
    go_ret2
    exact g f j
   have V:(z==[91])=false:=by simpa using d
   by_cases m:z=[93]
   .have E:(z==[93])=true:=by simp[m]
    obtain⟨K,L,u,Wo,g1,g2,F,M,g5,N,Y,Z⟩:=a;obtain⟨O,P,rfl,-⟩:=Rd.U M;obtain⟨W,X,rfl,-⟩:=Rd.U Z;have s6:=N.size;have s7:=Y.size;have T:=J (λv6 f aL B q hg=>Ou (t:=101) (tr:=96) (v6:=v6) (W1:=f) (W2:=aL) g1 F M g5 N Y Z U m B q hg (by decide));have aD:=gj M Y;clear d m G H I F;go_wp2_with fail
    go_quiet (fail)
    obtain⟨f,e,j,r1,r2,r3,C⟩:=wU wr x y z nq;rw[e];clear e Q R S;go_wp2_with (at_builtin;refine iq _ rfl (.tmp 42) (.tmp 44) 86 rfl v.heap.size 96 i0 _ 1 24 Tryz.underlying86 aa ab ac ad rfl (by decide) (.slice O L.length P) L.length L rfl ((gj aD j).alloc _) (f.heap.size+1) (some ⟨f.heap.size,0,none⟩) 1 1 [.slice W u.length X] rfl (by exact Rd.newAt _ _ (by simp) #[.slice W u.length X] 96 1 1 rfl) (by simp[Value.oneCell']) (by simp only[maxLen];omega) (by omega) (by simp;omega) ?_;intro v2 w2 l D _)
    go_roundw
    case rel=>exact⟨k+1,by omega,by simp,.inl ⟨rfl,T _ _ _ (j.alloc (by omega) _) l D⟩⟩
    case measure=>simp[intOf];omega
   have E:(z==[93])=false:=by simpa using m
   obtain⟨K,L,u,Wo,g1,g2,F,M,g5,N,Y,Z⟩:=a;obtain⟨O,P,rfl,-⟩:=Rd.U M;obtain⟨W,X,rfl,-⟩:=Rd.U Z;have s7:=Y.size;have T:=J (λv6 f aL B q hg=>VD (t:=101) (tr:=96) (v6:=v6) (W1:=f) (W2:=aL) g1 g2 F M g5 N Y Z U d m B q hg);clear d m G H I F;go_wp2_with fail
   go_quiet (fail)
   obtain⟨f,e,j,r1,r2,r3,C⟩:=wU wr x y z nq;rw[e];clear e Q R S;go_wp2_with (at_builtin;refine iq _ rfl (.tmp 48) (.tmp 50) 96 rfl Wo.heap.size 101 j0 _ 3 32 Tryz.underlying96 al ao ap aq rfl (by decide) (.slice W u.length X) u.length (dP u) rfl ((gj Z j).alloc _) (f.heap.size+1) (some ⟨f.heap.size,0,none⟩) 1 1 [.int .i64 x,.int .i64 y,.string z] rfl (by exact Rd.newAt _ _ (by simp) #[x,y,.string z] 101 1 3 rfl) (by simp[Value.oneCell']) (by simp only[maxLen];omega) (by omega) (by simp;omega) ?_;intro v2 w2 l D _)
   go_roundw
   case rel=>exact⟨k+1,by omega,by simp,.inr ⟨rfl,T _ _ _ (j.alloc (by omega) _) l D⟩⟩
   case measure=>simp[intOf];omega
  obtain rfl:k=n:=by omega
  rcases a with⟨rfl,a⟩|⟨rfl,a⟩
  .obtain⟨O,n4,P,rfl⟩:∃O n4 P,u4=.slice O n4 P:=by
    obtain⟨_,_,_,_,h3,_,_⟩:=a;obtain⟨O,P,h,-⟩:=Rd.U h3;exact⟨_,_,_,h⟩
   have g:=J (UF a (by rw[ak.out];exact ae _));clear a;go_wp2
   go_ret2
   exact g
  obtain⟨V,E⟩:=UD a (by rw[ak.out];exact ae _);have g:=J (BC (t:=101) (tr:=96) V E);clear a V E;go_wp2
  go_ret2
  exact g
def DZ (c:UInt8):Bool:=c !=32 && c !=9 && c !=10 && c !=35
def dA (w:B):Bool:= !w.isEmpty && w.all DZ
theorem CO {c:UInt8}(h:DZ c=true):blank c=false/\c≠35/\c≠10:=by simp only[DZ,np,bne_iff_ne,ne_eq]at h;exact⟨by simp[blank,h.1.1.1,h.1.1.2],h.2,h.1.2⟩
theorem Xu (h:dA k=true):k≠[]:=by intro e;subst e;simp[dA]at h
theorem CJ (h:dA k=true):∀c∈k,DZ c=true:=by simp only[dA,np,pZ]at h;exact h.2
def xW (a:List B):B:=match a with|[]=>[10]|w::r=>aJ w r
def zO:Nat->List B->List (Nat×B)
 |_,[]=>[]
 |k,w::r=>(k,w)::zO (k+w.length+1) r
theorem JB (k:Nat)(b:List B):(zO k b).map (·.2)=b:=by
 induction b generalizing k with
 |nil=>rfl
 |cons w r a=>simp[zO,a]
theorem O8 (σ :St)(w:B)(a:dA w=true)(e: σ.cur=[]):w.foldl step σ =⟨σ.iB+w.length,σ.iB,w,σ.told⟩:=by
 cases w with
 |nil=>simp[dA]at a
 |cons c r=>have b:=CO (CJ a c (by simp));rw[o0,Ep _ r (by unfold step;simp[b.1]) (λd f=>(CO (CJ a d (by simp[f]))).1)];unfold step;simp[b.1,e];omega
theorem DQ (f:List B)(σ :St)(a: σ.cur≠[])(h:∀w∈f,dA w=true):((gy f).foldl step σ).all= σ.told++[(σ.fr,σ.cur)]++zO (σ.iB+1) f:=by
 induction f generalizing σ with
 |nil=>simp[gy,zO,St.all,St.ns,a]
 |cons w r b=>
  have e:gy (w::r)=32::(w++gy r):=by simp[gy]
  have c:step σ 32=⟨σ.iB+1,0,[],σ.all⟩:=by unfold step;rw[if_pos (by decide)]
  rw[e,o0,xD,c,O8 _ w (h w (by simp)) rfl,b _ (Xu (h w (by simp))) (λx d=>h x (by simp[d]))];simp[St.all,St.ns,a,zO]
  all_goals omega
theorem Hu (l:B)(h:∀c∈l,c≠35):code l=l:=by
 unfold code;induction l with
 |nil=>rfl
 |cons d r a=>rw[List.takeWhile_cons_of_pos (by simpa using h d (by simp)),a (λc b=>h c (by simp[b]))]
theorem WQ (b:List B)(h:∀w∈b,dA w=true):∀c∈gy b,c≠35/\c≠10:=by
 intro c hc;simp only[gy,rz,lx]at hc;obtain⟨w,a,hc|hc⟩:=hc
 .subst hc;decide
 exact(CO (CJ (h w a) c hc)).2
theorem KS (w:B)(d:List B)(h:∀x∈w::d,dA x=true):one (w++gy d)=zO 0 (w::d):=by
 have b:∀c∈w++gy d,c≠35:=by
  intro c hc;rw[jp]at hc;rcases hc with hc|hc
  .exact(CO (CJ (h w (by simp)) c hc)).2.1
  exact(WQ d (λx a=>h x (by simp[a])) c hc).1
 rw[one,Hu _ b,run,xD,O8 p' w (h w (by simp)) rfl,DQ d _ (Xu (h w (by simp))) (λx a=>h x (by simp[a]))];simp[zO,p']
def Dj:Nat->List (List B)->List (List Wd)
 |_,[]=>[]
 |n,l::a=>num n (zO 0 l)::Dj (n+1) a
def qW:Nat->List (List B)->List (Int×List B)
 |_,[]=>[]
 |n,l::a=>((n:Int),l)::qW (n+1) a
def vb (L:List (List B)):Prop:=∀l∈L,l≠[]/\∀w∈l,dA w=true
theorem YI (L:List (List B))(n:Nat)(h:vb L):bY n (iU (L.flatMap xW))=Dj n L:=by
 induction L generalizing n with
 |nil=>simp[iU,bY,Dj,one,code,run,p',St.all,St.ns]
 |cons l f g=>
  obtain⟨i,a⟩:=h l (by simp);cases l with
  |nil=>exact absurd rfl i
  |cons w r=>
   have b:∀c∈w++gy r,c≠10:=by
    intro c hc;rw[jp]at hc;rcases hc with hc|hc
    .exact(CO (CJ (a w (by simp)) c hc)).2.2
    exact(WQ r (λx d=>a x (by simp[d])) c hc).2
   have e:((w::r)::f).flatMap xW=(w++gy r)++10::f.flatMap xW:=by simp[xW,aJ]
   rw[e,Xa _ _ b,bY,KS w r a,g (n+1) (λx d=>h x (by simp[d]))];simp[zO,Dj]
theorem CH (L:List (List B))(h:vb L):iH (L.flatMap xW)=Dj 1 L:=YI L 1 h
theorem Lg (L:List (List B))(n:Nat)(h:vb L):(Dj n L).map (λl=>((l.head?.map (·.1)).getD 0,l.map (·.2.2)))=qW n L:=by
 induction L generalizing n with
 |nil=>rfl
 |cons l d a=>
  obtain⟨b,e⟩:=h l (by simp);cases l with
  |nil=>exact absurd rfl b
  |cons w r=>
   simp only[Dj,lP,qW,a (n+1) (λx c=>h x (by simp[c]))];congr 1
   simp only[num,zO,lP,List.head?_cons,Option.map_some,Option.getD_some,xz,rE,true_and];congr 1
   have:=JB (0+w.length+1) r;simpa [Function.comp_def]using this
theorem YH (L:List (List B))(h:vb L):iv (L.flatMap xW)=qW 1 L:=by rw[iv,CH L h,Lg L 1 h]
theorem DM (n:Nat)(L:List (List B)):(qW n L).map (·.2)=L:=by
 induction L generalizing n with
 |nil=>rfl
 |cons l b a=>simp[qW,a]
theorem DH (n:Nat)(a b:List (List B)):qW n (a++b)=qW n a++qW (n+a.length) b:=by
 induction a generalizing n with
 |nil=>simp[qW]
 |cons l c d=>simp only[nw,qW,d,aV];rw[show n+1+c.length=n+(c.length+1) by omega]
theorem Gu (f:Gl)(s:PS)(a b:List (Int×List B)):stmts f s (a++b)=(match stmts f s a with| .ok c=>stmts f c b| .error e=> .error e):=by
 induction a generalizing s with
 |nil=>rfl
 |cons x a d=>
  obtain⟨n,l⟩:=x;simp only[nw,stmts];cases stmt f s l with
  |error e=>rfl
  |ok c=>exact d c
def va:Obj->Prop
 | .cells _ t _=>t≠5/\t≠108
 |_=>True
structure KP (w w':World):Prop where
 same:∀(b:Nat) (o:Obj),w.heap[b]?=some o->va o->w'.heap[b]?=some o
 size:w.heap.size<=w'
theorem KP.refl (w:World):KP w w:=⟨λ_ _ h _=>h,ae _⟩
theorem KP.trans {c:World}(h:KP W b)(k:KP b c):KP W c:=⟨λx o e d=>k.same x o (h.same x o e d) d,nt h.size k.size⟩
theorem KP.below {w w':World}(h:Below w w w'):KP w w':=⟨λb o a _=>(h.block b (mq.1 a).1).trans a,h.size⟩
theorem KP.alloc (o:Obj):KP v (v.alloc o):=KP.below ((gD _ _).alloc (ae _) _)
theorem KP.drewN (n:Nat):KP v (v.drewN n):=⟨λ_ _ h _=>h,ae _⟩
theorem KP.bk {w':World}(h:KP W w')(a:Bk W g u n)(b:u≠5)(c:u≠108):Bk w' g u n:=h.same g _ a ⟨b,c⟩
def FT (w:World):Bs:=λb=>∃o,w.heap[b]?=some o/\va o
theorem KP.ft {w':World}(h:KP W w'):Same (FT W) W w':=λb ⟨o,a,c⟩=>(h.same b o a c).trans a.symm
theorem KP.sub {w':World}(h:KP W w'):∀b,FT W b->FT w' b:=λb ⟨o,c,a⟩=>⟨o,h.same b o c a,a⟩
theorem KP.sl {R:Rel α}(a:R.Ok){w':World}{c:List α}(h:KP W w')(k:Sl R g W (FT W) A c):Sl R g w' (FT w') A c:=(k.keep a h.ft).mono a h.sub
theorem KP.rel {R:Rel α}(a:R.Ok){w':World}{x:α}(h:KP W w')(k:R W (FT W) f x):R w' (FT w') f x:=a.mono (a.keep k h.ft) h.sub
theorem Hy (h:Bk W g u n)(a:u≠5)(c:u≠108):FT W g:=⟨_,h,a,c⟩
section
open Go.Sort
theorem TA (n x:Int)(l:List Int):x∈rH n l ↔ x=n\/x∈l:=by
 induction l with
 |nil=>simp[rH]
 |cons y r a=>
  rw[rH];split
  .simp
  split
  .rename_i h;subst h;simp
  rw[lx,a,lx];constructor
  .rintro(h|h|h)
   .exact .inr (.inl h)
   .exact .inl h
   exact .inr (.inr h)
  rintro(h|h|h)
  .exact .inr (.inl h)
  .exact .inl h
  exact .inr (.inr h)
theorem OR (n:Int)(l:List Int)(h:l.Pairwise (· < ·)):(rH n l).Pairwise (· < ·):=by
 induction l with
 |nil=>simp[rH]
 |cons y r b=>
  rw[List.pairwise_cons]at h;rw[rH];split
  .rename_i c;rw[List.pairwise_cons];refine⟨λa ha=> ?_,List.pairwise_cons.2 h⟩;rcases lx.1 ha with rfl|ha
   .exact c
   have:=h.1 a ha;omega
  split
  .exact List.pairwise_cons.2 h
  rw[List.pairwise_cons];refine⟨λa ha=> ?_,b h.2⟩;rcases(TA n a r).1 ha with rfl|ha
  .omega
  exact h.1 a ha
theorem FY (x:Int)(l:List Int):x∈setOf l ↔ x∈l:=by
 induction l with
 |nil=>simp[setOf]
 |cons y r a=>show x∈rH y (setOf r) ↔ _;rw[TA,a,lx]
theorem It (l:List Int):(setOf l).Pairwise (· < ·):=by
 induction l with
 |nil=>exact List.Pairwise.nil
 |cons y r a=>exact OR y _ a
theorem N0 (a b:List Int)(d:a.Pairwise (· < ·))(f:b.Pairwise (· < ·))(h:∀x,x∈a ↔ x∈b):a=b:=by
 induction a generalizing b with
 |nil=>
  cases b with
  |nil=>rfl
  |cons y s=>exact absurd ((h y).2 (by simp)) (by simp)
 |cons x r i=>
  cases b with
  |nil=>exact absurd ((h x).1 (by simp)) (by simp)
  |cons y s=>
   rw[List.pairwise_cons]at d f;have g:x=y:=by
    rcases lx.1 ((h x).1 (by simp))with e|hx
    .exact e
    rcases lx.1 ((h y).2 (by simp))with e|hy
    .exact e.symm
    have j:=f.1 x hx;have k:=d.1 y hy;omega
   subst g;congr 1
   refine i s d.2 f.2 λz=> ?_
   constructor
   .intro c;rcases lx.1 ((h z).1 (by simp[c]))with e|hs
    .have:=d.1 z c;omega
    exact hs
   intro c;rcases lx.1 ((h z).2 (by simp[c]))with e|hs
   .have:=f.1 z c;omega
   exact hs
theorem L7 (zs:List Int)(t:zs.Pairwise (· <= ·))(m:Nat)(w:m<=zs.length):(Lib.compactUpTo zs.toArray m).Pairwise (· < ·)/\(∀x,x∈Lib.compactUpTo zs.toArray m ↔ x∈zs.take m)/\(∀x,x∈Lib.compactUpTo zs.toArray m->0<m->x<=zs.toArray[m - 1]!):=by
 induction m with
 |zero=>exact⟨by simp[Lib.compactUpTo],by simp[Lib.compactUpTo],λx _ h=>by omega⟩
 |succ m u=>
  obtain⟨p,q,r⟩:=u (by omega);have e:m<zs.length:=by omega
  have i:zs.toArray[m]! =zs[m]:=by simp[e]
  have j:zs.take (m+1)=zs.take m++[zs[m]]:=(List.take_append_getElem e).symm;rw[Lib.compactUpTo_succ,i];cases f:Lib.keeps zs.toArray m with
  |true=>
   have d:∀x∈Lib.compactUpTo zs.toArray m,x<zs[m]:=by
    intro x g;by_cases l:m=0
    .subst l;simp[Lib.compactUpTo]at g
    have n:=r x g (by omega);have o:zs.toArray[m]! ≠zs.toArray[m - 1]! :=by unfold Lib.keeps at f;rw[sk]at f;exact f.resolve_left l
    have c:zs.toArray[m - 1]! =zs[m - 1]:=by simp[show m - 1<zs.length by omega]
    rw[i,c]at o;rw[c]at n;have:=List.pairwise_iff_getElem.1 t (m - 1) m (by omega) e (by omega);omega
   refine⟨?_,λx=> ?_,λx g _=> ?_⟩
   .simp only[if_true];rw[List.pairwise_append];exact⟨p,by simp,λa v b s=>by simp only[js]at s;subst s;exact d a v⟩
   .simp only[if_true];rw[j,jp,jp,q]
   rw[Nat.add_sub_cancel,i];simp only[if_true]at g;rcases jp.1 g with h|h
   .exact Int.le_of_lt (d x h)
   simp only[js]at h;omega
  |false=>
   have l:0<m:=by
    rcases Nat.eq_zero_or_pos m with h|h
    .subst h;simp[Lib.keeps]at f
    exact h
   have k:zs.toArray[m]! =zs.toArray[m - 1]! :=by
    unfold Lib.keeps at f;rw[decide_eq_false_iff_not]at f;by_cases h:zs.toArray[m]! =zs.toArray[m - 1]!
    .exact h
    exact absurd (.inr h) f
   have c:zs.toArray[m - 1]! =zs[m - 1]:=by simp[show m - 1<zs.length by omega]
   rw[i,c]at k;simp only[Bool.false_eq_true,if_false,pp];refine⟨p,λx=> ?_,λx g _=> ?_⟩
   .rw[j,jp,q,js];constructor
    .exact .inl
    rintro(h|h)
    .exact h
    rw[h,k];exact List.mem_take_iff_getElem.2 ⟨m - 1,by omega,rfl⟩
   rw[Nat.add_sub_cancel,i];have:=r x g l;rw[c]at this;omega
theorem Qe (l:List Int):Lib.compact (l.mergeSort λx y=>decide (x<=y))=setOf l:=by
 have f:(l.mergeSort λx y=>decide (x<=y)).Pairwise (· <= ·):=by have:=List.pairwise_mergeSort (le:=λx y:Int=>decide (x<=y)) (λa b c d e=>by simp only[sk]at*;omega) (λa b=>by simp only[Bool.or_eq_true,sk];omega) l;exact this.imp (λh=>by simpa using h)
 obtain⟨d,e,-⟩:=L7 _ f _ (ae _);refine N0 _ _ d (It l) λx=> ?_
 show x∈Lib.compactUpTo _ _ ↔ _;rw[e,lf,FY];exact(List.mergeSort_perm l _).mem_iff
theorem PE (l:List Int):(setOf l).length<=l.length:=by
 have hi:∀n l,(rH n l).length<=l.length+1:=by
  intro n l;induction l with
  |nil=>simp[rH]
  |cons y r a=>
   rw[rH];split
   .simp
   split
   .simp
   simp only[aV];omega
 induction l with
 |nil=>simp[setOf]
 |cons y r a=>show(rH y (setOf r)).length<=_;have:=hi y (setOf r);simp only[aV];omega
end
def Nz {α:Type}(a:Except Int α):Prop:=∀e,a=.error e->e≠0
theorem Nz.err (e:h≠0):Nz (.error h:Except Int α):=λx a=>by injection a with a;rw[<-a];exact e
theorem Nz.ok {a:α}:Nz (.ok a:Except Int α):=λx b=>by cases b
theorem qR (e:Int)(s:PS):Nz (fin e s):=by
 unfold fin;split
 .exact Nz.ok
 rename_i h;exact Nz.err h
theorem RA (b:Gl)(a:List (B×List Int))(t:B):Nz (pR b a t):=by unfold pR;split<;>split<;>first|exact Nz.ok|exact Nz.err (by decide)
theorem AH (g:Gl)(a:List (B×List Int))(l:List B)(b:List Int):Nz (qH g a b l):=by
 induction l generalizing b with
 |nil=>exact Nz.ok
 |cons t r d=>
  rw[qH];have h:=RA g a t;cases f:pR g a t with
  |error e=>exact Nz.err (h e f)
  |ok c=>
   simp only;split
   .exact Nz.err (by decide)
   exact d _
theorem NW (g:Gl)(a:List (B×List Int))(l:List (List B)):Nz (mX g a l):=by
 induction l with
 |nil=>exact Nz.ok
 |cons t r b=>
  rw[mX];have h:=AH g a t [];cases d:qH g a [] t with
  |error e=>exact Nz.err (h e d)
  |ok c=>
   simp only;cases f:mX g a r with
   |error e=>exact Nz.err (b e f)
   |ok x=>exact Nz.ok
theorem Pp (l a:List Int):Nz (gz l a):=by
 unfold gz;split
 .exact Nz.err (by decide)
 split
 .exact Nz.err (by decide)
 exact Nz.ok
theorem eH {c:Prop}[Decidable c]{x y:Except Int α}(a:Nz x)(b:Nz y):Nz (if c then x else y):=by
 split
 .exact a
 exact b
theorem Md {x:Except Int α}(a:Nz x):Nz (if h≠0 then .error h else x):=by
 by_cases e:h≠0
 .rw[if_pos e];exact Nz.err e
 rw[if_neg e];exact a
theorem n22:Nz (.error 22:Except Int α):=Nz.err (by decide)
theorem n24:Nz (.error 24:Except Int α):=Nz.err (by decide)
theorem Pl (a:Gl)(s:PS)(l:List B):Nz (gK a s l):=by
 unfold gK;split
 .exact n22
 split
 .split
  .refine eH n22 (eH n22 ?_);split
   .rename_i h;exact Nz.err (NW _ _ _ _ h)
   split
   .rename_i h;exact Nz.err (NW _ _ _ _ h)
   split
   .rename_i h;exact Nz.err (NW _ _ _ _ h)
   dsimp only;refine Md (eH ?_ Nz.ok);split
   .rename_i h;exact Nz.err (Pp _ _ _ h)
   exact Nz.ok
  exact n22
 exact n22
theorem Ps (s:PS)(l:List B):Nz (sG s l):=by
 unfold sG;split
 .exact Md (eH n24 Nz.ok)
 exact n22
theorem KB (a:Gl)(s:PS)(l:List B):Nz (mV a s l):=by
 unfold mV;split
 .exact n22
 split
 .refine Md ?_;split
  .rename_i h;exact Nz.err (AH _ _ _ _ _ h)
  exact eH n24 Nz.ok
 exact n22
theorem KK (a:Gl)(s:PS)(l:List B):Nz (jv a s l):=by
 unfold jv;split
 .exact eH (Md (eH n24 Nz.ok)) n22
 exact n22
theorem WU (a:Gl)(s:PS)(l:List B):Nz (stmt a s l):=by
 cases l with
 |nil=>exact n22
 |cons w r=>
  unfold stmt;refine eH (Ps _ _) (eH ?_ (eH ?_ (eH (qR _ _) (eH ?_ (eH (KB _ _ _) (eH (KK _ _ _) (eH ?_ (eH ?_ (eH ?_ (eH ?_ (eH ?_ (eH ?_ (eH ?_ (eH (Pl _ _ _) (eH ?_ n22)))))))))))))))
  .unfold Bc;split<;>first|exact qR _ _|exact n22
  .exact eH n22 (qR _ _)
  .exact eH n22 (qR _ _)
  .exact eH n22 (eH n22 (qR _ _))
  .refine eH n22 ?_;split<;>first|exact qR _ _|exact n22
  .refine eH n22 ?_;split<;>first|exact eH n22 (qR _ _)|exact n22
  .refine eH n22 ?_;split<;>first|exact qR _ _|exact n22
  .exact eH n22 (eH n22 (qR _ _))
  .unfold Be;split<;>first|exact qR _ _|exact n22
  .unfold jB;split<;>first|exact eH (eH n22 Nz.ok) n22|exact n22
  unfold tq;split<;>first|exact qR _ _|exact n22
theorem Nm (l:B)(σ :St):(((l.foldl step σ).told).map (λx=>x.2.length)).sum+(l.foldl step σ).cur.length<=(σ.told.map (λx=>x.2.length)).sum+ σ.cur.length+l.length:=by
 induction l generalizing σ with
 |nil=>simp
 |cons c r a=>
  rw[o0];have h:=a (step σ c);have d:((step σ c).told.map (λx=>x.2.length)).sum+(step σ c).cur.length<=(σ.told.map (λx=>x.2.length)).sum+ σ.cur.length+1:=by
   unfold step;split
   .by_cases b: σ.cur=[]<;>simp[St.all,St.ns,b]<;>omega
   simp only[la,aV,ln];omega
  simp only[aV];omega
theorem KV (l:B):∀x∈one l,x.2.length<=l.length:=by
 intro x hx;have h:=Nm (code l) p';have d:(code l).length<=l.length:=(List.takeWhile_sublist _).length_le;have b:x.2.length<=((run (code l)).told.map (λx=>x.2.length)).sum+(run (code l)).cur.length:=by
  unfold one St.all St.ns at hx;rw[jp]at hx;rcases hx with hx|hx
  .have:∀(L:List (Nat×B)),x∈L->x.2.length<=(L.map (λx=>x.2.length)).sum:=by
    intro L hL;induction L with
    |nil=>simp at hL
    |cons a r c=>
     rw[lx]at hL;simp only[lP,ud];rcases hL with rfl|hL
     .omega
     have:=c hL;omega
   have:=this _ hx;omega
  split at hx
  .simp at hx
  simp only[js]at hx;subst hx;simp only;omega
 have e:(p'.told.map (λx=>x.2.length)).sum+p'.cur.length=0:=rfl;unfold run at b;omega
theorem I6 (s:B):∀p∈iU s,p.length<=s.length:=by
 induction s with
 |nil=>intro p hp;simp[iU]at hp;subst hp;simp
 |cons c r a=>
  intro p hp;rw[iU]at hp;split at hp
  .rw[lx]at hp;rcases hp with rfl|hp
   .simp
   have:=a p hp;simp only[aV];omega
  cases b:iU r with
  |nil=>exact absurd b (Ub r)
  |cons q d=>
   rw[b]at hp a;simp only[lx]at hp;rcases hp with rfl|hp
   .have:=a q (by simp);simp only[aV];omega
   have:=a p (by simp[hp]);simp only[aV];omega
theorem Tn (K:Nat)(a:B)(g:a.length<=K):∀r∈iH a,r.length<=K/\∀x∈r,x.2.2.length<=K:=by
 have d:∀(b:List B) (n:Nat),(∀p∈b,p.length<=K)->∀r∈bY n b,r.length<=K/\∀x∈r,x.2.2.length<=K:=by
  intro b;induction b with
  |nil=>intro n _ r hr;simp[bY]at hr
  |cons p b h=>
   intro n c r hr;rw[bY,jp]at hr;rcases hr with hr|hr
   .split at hr
    .simp at hr
    simp only[js]at hr;subst hr;have f:=c p (by simp);refine⟨by rw[Ih];exact nt (WY p) f,λx e=> ?_⟩;unfold num at e;rw[mN]at e;obtain⟨y,i,rfl⟩:=e;exact nt (KV p y i) f
   exact h (n+1) (λq j=>c q (by simp[j])) r hr
 exact d _ _ λp c=>nt (I6 a p c) g
theorem U7 (a:B)(b:a.length<=800000000):∀r∈iH a,r.length<=800000000/\∀x∈r,x.2.2.length<=800000000:=Tn 800000000 a b
def RX (σ :St):Int:=if σ.cur=[]then -1 else σ.fr
theorem RY (h: j.cur=[]):RX j = -1:=by rw[RX,if_pos h]
theorem Ny (h: j.cur≠[]):RX j =(j.fr:Int):=by rw[RX,if_neg h]
theorem YO (n:Nat)(a b:List (Nat×B)):num n (a++b)=num n a++num n b:=by simp[num]
theorem Mu (n:Nat)(h: j.cur=[]):num n j.all=num n j.told:=by rw[St.all,St.ns,if_pos h,pp]
theorem LO (n:Nat)(s:B)(k:Nat)(h:(run (s.take k)).cur≠[]):num n (run (s.take k)).all=num n (run (s.take k)).told++[((n:Int),((run (s.take k)).fr:Int),(s.take k).drop (run (s.take k)).fr)]:=by rw[St.all,St.ns,if_neg h,YO,(Xg _ h).2];rfl
theorem T' (s:B)(k:Nat)(a:k<=s.length)(h:(run (s.take k)).cur≠[]):(run (s.take k)).fr<=k:=by have:=(Xg _ h).1;rw[ot]at this;omega
theorem FL (s:B)(k:Nat)(c:UInt8)(h:s[k]?=some c)(a:blank c=true):(run (s.take (k+1))).told=(run (s.take k)).all/\RX (run (s.take (k+1)))= -1:=by refine⟨?_,RY (Dw s k c h a)⟩;rw[mj s k c h,wQ,step,if_pos a]
theorem Ni (s:B)(k d:Nat)(h:1<=d)(q:k+d<=s.length)(b:∀j c,k<=j->j<k+d->s[j]?=some c->blank c=false):
  (run (s.take (k+d))).told=(run (s.take k)).told/\(run (s.take (k+d))).cur≠[]/\(run (s.take (k+d))).fr=if(run (s.take k)).cur=[]then k else(run (s.take k)).fr:=by
 obtain⟨d,rfl⟩:∃e,d=e+1:=⟨d - 1,by omega⟩
 clear h;induction d with
 |zero=>have a:s[k]?=some (s[k]'(by omega)):=jO (by omega);have f:=b k _ (ae _) (by omega) a;have g:=AD (s.take k);rw[ot,Nat.min_eq_left (by omega)]at g;rw[mU,mj s k _ a,wQ,step,if_neg (by simp[f])];simp[g]
 |succ d i=>obtain⟨l,m,n⟩:=i (by omega) (λj c o r p=>b j c o (by omega) p);have a:s[k+(d+1)]?=some (s[k+(d+1)]'(by omega)):=jO (by omega);have f:=b (k+(d+1)) _ (by omega) (by omega) a;rw[<-xA k (d+1) 1,mj s (k+(d+1)) _ a,wQ,step,if_neg (by simp[f])];refine⟨l,by simp,?_⟩;rw[if_neg m];exact n
theorem Nu (h:Nat)(s:B)(n k:Nat)(b:qz h s n (RX (run (s.take k))) (num n (run (s.take k)).told) v)(c:k<=s.length)(d:s.length<=800000000):
  Calls Tryz.prog 88 #[k,.pointer (h+1+1+1,0),.pointer (h+1+1,0),.pointer (h+1,0),.pointer (h,0)] v (BG h s n (num n (run (s.take k)).all) v):=by
 by_cases a:(run (s.take k)).cur=[]
 .rw[RY a]at b;rw[Mu n a];exact Mx v h s n k _ b
 rw[Ny a]at b;rw[LO n s k a];refine Mp v h s n _ k _ b (T' s k c a) c d ?_;have e:=Gs (s.take k);rw[ot,St.all,la]at e;rw[Ih];omega
theorem pw {n:Nat}(h:W.ownsRow g u d c n f){k:Nat}{p:Nat}(b:W.heap[k]?=some (.stringIter m p))(q:Nat):(W.iterAt k m q).ownsRow g u d c n f:=by
 refine h.kept (row:=some k) ⟨rfl,rfl,rfl,by rw[Lib.iterAt_size];exact ae _,λi _ a=>Lib.iterAt_other W k i m q (λu=>a (by rw[u]))⟩ ?_;cases s:c.ownBlock with
 |none=>exact .inl rfl
 |some v=>
  refine .inr ?_;intro u;injection u with u
  subst u;obtain⟨j,w⟩:=iI h v s;have:W.heap[v]?=_:=w;rw[b]at this;cases this
theorem Bk.iterAt (h:Bk W g u n){k:Nat}{p:Nat}(a:W.heap[k]?=some (.stringIter m p))(q:Nat):Bk (W.iterAt k m q) g u n:=by refine(Lib.iterAt_other W k g m q ?_).trans h;rintro rfl;have:W.heap[g]?=_:=h;rw[a]at this;cases this
theorem qz.iterAt {h:Nat}{s:B}{n:Nat}{f:Int}{m:List P3}{W:World}(b:qz h s n f m W){k:Nat}{l:ByteArray}{p:Nat}(a:W.heap[k]?=some (.stringIter l p))(q:Nat):qz h s n f m (W.iterAt k l q):=by obtain⟨d,e,g,A,c,i,j⟩:=b;exact⟨d.iterAt a q,e.iterAt a q,g.iterAt a q,A,c,i.iterAt a q,pw j a q⟩
def CZ (w:World)(s:B)(n k:Nat)(a:World):Prop:=a.heap[w.heap.size+1+1+1+1]?=some (.stringIter ⟨s.toArray⟩ k)/\k<=s.length/\(∀j c,j<k->s[j]?=some c->c≠35)/\qz w.heap.size s n (RX (run (s.take k))) (num n (run (s.take k)).told) a/\Below w w a
def ET (w:World)(s:B)(n:Nat)(e:Ending)(w':World):Prop:=∃v,e=.returned v/\w'.ownsRow w.heap.size 101 3 v (one s).length (dP (num n (one s)))/\Below w w w'
theorem PI (w b:World)(s:B)(n k m c:Nat)(A:Option Addr)(a:code s=s.take k)(e:(num n (run (s.take k)).all).length=m)(f:b.ownsRow (w.heap.size+1+1+1+1) 101 3 (A m c) m (dP (num n (run (s.take k)).all)))(d:Below w w b):ET w s n (.returned (A m c)) b:=by refine⟨_,rfl,?_,d⟩;rw[Ih]at e;rw[one,a,e];exact ir f (by omega)
theorem GF (s:B)(j:Nat)(c:UInt8)(h:s[j]?=some c):(ByteArray.mk s.toArray).get! j=c:=by obtain⟨a,b⟩:=ll.1 h;simp[ByteArray.get!,a,b]
theorem RD (s:B)(k:Nat)(c:UInt8)(o:s[k]?=some c)(g:c≠35)(b:blank c=false):
  ∃r d:Nat,Utf8.decode ⟨s.toArray⟩ k=(r,d)/\((r:Int)==35)=false/\((r:Int)==32)=false/\((r:Int)==9)=false/\r<=2147483647/\1<=d/\k+d<=s.length/\∀j c,k<=j->j<k+d->s[j]?=some c->blank c=false/\c≠35:=by
 have e:k<s.length:=(ll.1 o).1;have p:=byte_at s k c o e;have i:=decode_le ⟨s.toArray⟩ k;have w:c.toNat≠35:=λh=>g (UInt8.toNat_inj.1 h)
 have x:c.toNat≠32/\c.toNat≠9:=by simp only[blank,Bool.or_eq_false_iff,beq_eq_false_iff_ne,ne_eq]at b;exact⟨λh=>b.1 (UInt8.toNat_inj.1 h),λh=>b.2 (UInt8.toNat_inj.1 h)⟩
 by_cases y:c.toNat<128
 .have v:=decode_ascii ⟨s.toArray⟩ k e (by rw[p];exact y);rw[p]at v;refine⟨_,_,v,?_,?_,?_,by omega,by omega,by omega,λj q z A f=> ?_⟩
  .simp;omega
  .simp;omega
  .simp;omega
  obtain rfl:j=k:=by omega
  rw[o]at f;cases f;exact⟨b,g⟩
 obtain⟨t,l⟩:=decode_high ⟨s.toArray⟩ k e (by rw[p];omega);obtain⟨m,n⟩:=UY ⟨s.toArray⟩ k e;generalize Utf8.decode ⟨s.toArray⟩ k=D at*
 obtain⟨r,d⟩:=D;dsimp only at t l m n i;refine⟨r,d,rfl,?_,?_,?_,i,l,m,λj q z A f=> ?_⟩
 .simp;omega
 .simp;omega
 .simp;omega
 have a:128<=q.toNat:=by
  by_cases u:j=k
  .subst u;rw[o]at f;cases f;omega
  have:=n (j - k) (by omega) (by omega)
  rwa [show k+(j - k)=j by omega,GF s j q f]at this
 refine⟨?_,λh=>by subst h;revert a;decide⟩;simp only[blank,Bool.or_eq_false_iff,beq_eq_false_iff_ne,ne_eq];exact⟨λh=>by subst h;revert a;decide,λh=>by subst h;revert a;decide⟩
theorem qv (s:B)(n:Nat)(hs:s.length<=800000000):Calls Tryz.prog 41 #[.string s,n] v (ET v s n):=by
 obtain⟨W0,N⟩:∃W0,((((v.alloc (.cells #[.string s] 9)).alloc (.cells #[n] 3)).alloc (.cells #[()] 96)).alloc (.cells #[.int .i64 (-1)] 3)).iter ⟨s.toArray⟩ 0=W0:=⟨_,rfl⟩
 have t:CZ v s n 0 W0:=by
  rw[<-N];refine⟨?_,by omega,by omega,?_,?_⟩
  .have:=heap_alloc_new ((((v.alloc (.cells #[.string s] 9)).alloc (.cells #[n] 3)).alloc (.cells #[()] 96)).alloc (.cells #[.int .i64 (-1)] 3)) (.stringIter ⟨s.toArray⟩ 0);simp only[World.size_alloc]at this;exact this
  .refine⟨?_,?_,?_,none,0,?_,?_⟩
   .exact((((Bk.new v 9 _).alloc _).alloc _).alloc _).alloc _
   .have:=(((Bk.new (v.alloc (.cells #[.string s] 9)) 3 #[n]).alloc (.cells #[()] 96)).alloc (.cells #[.int .i64 (-1)] 3)).alloc (.stringIter ⟨s.toArray⟩ 0);simp only[World.size_alloc]at this;exact this
   .have:=(Bk.new (((v.alloc (.cells #[.string s] 9)).alloc (.cells #[n] 3)).alloc (.cells #[()] 96)) 3 #[.int .i64 (-1)]).alloc (.stringIter ⟨s.toArray⟩ 0);simp only[World.size_alloc]at this;exact this
   .have:=((Bk.new ((v.alloc (.cells #[.string s] 9)).alloc (.cells #[n] 3)) 96 #[()]).alloc (.cells #[.int .i64 (-1)] 3)).alloc (.stringIter ⟨s.toArray⟩ 0);simp only[World.size_alloc]at this;exact this
   simp only[List.take_zero,run,p',List.foldl_nil,num,p9,ln,dP,tx];exact⟨rfl,.inl ⟨rfl,rfl⟩⟩
  exact(((((gD _ v).alloc (ae _) _).alloc (by simp) _).alloc (by simp;omega) _).alloc (by simp;omega) _).alloc (by simp;omega) _
 have HW:=J N;clear N;go_enter Tryz.func41,Tryz.ntmps41
 go_wp2;go_step3;go_wp2;go_step3;go_wp2;rw[HW.out];clear HW;go_loopw [8] (λl wr=>l=.int .i64 s.length/\∃k,CZ v s n k wr) (λ_ wr=>s.length - wr.iterPos (v.heap.size+1+1+1+1))
 case atStart=>exact⟨rfl,0,t⟩
 case round=>
  obtain⟨rfl,k,a,Y,h,u,w⟩:=hrel;clear t;have f:=iterPos_of a;by_cases q:k<s.length
  .obtain⟨c,H⟩:∃c,s[k]?=some c:=⟨_,jO q⟩
   have O:=byte_at s k c H q;by_cases x:c=35
   .subst x;have m:=J (OX s k Y h (λc' y=>by rw[H]at y;cases y;rfl));have o:∀p,(Instr.next (.pointer (v.heap.size+1+1+1+1,0)) true p).run Tryz.prog wr=_:=λp=>Lib.run_next_ascii_at wr _ ⟨s.toArray⟩ k p a q (by rw[O];decide)
    rw[O]at o;have E:=u.iterAt a (k+1);have I:=Lib.below_iterAt w (k:=v.heap.size+1+1+1+1) (by omega) ⟨s.toArray⟩ (k+1);clear h H O f;generalize wr.iterAt (v.heap.size+1+1+1+1) ⟨s.toArray⟩ (k+1)=P at*
    go_wp2_with (go_at_call 88;refine(Nu _ _ s n k E Y hs).mono ?_;rintro e g ⟨rfl,i,Z,Yr⟩;obtain⟨V,W,F,A,al,K,G⟩:=i;have x4:g.cell? (v.heap.size+1+1,0)=some (A (num n (run (s.take k)).all).length al):=K.cell 0)
    try rw[Exit.noGoto_ret]
    go_ret
    exact PI v g s n k _ al A m rfl G (I.trans Z)
   by_cases z:blank c=true
   .have b:Hid (∀g,g.heap[v.heap.size+1+1+1+1]?=some (.stringIter ⟨s.toArray⟩ (k+1))->qz v.heap.size s n (-1) (num n (run (s.take k)).all) g->Below v v g->CZ v s n (k+1) g):=by
     intro g Q X h3;obtain⟨r1,r2⟩:=FL s k c H z;refine⟨Q,by omega,λj d hj hd=> ?_,by rw[r1,r2];exact X,h3⟩;by_cases R:j=k
     .subst R;rw[H]at hd;cases hd;exact x
     exact h j d (by omega) hd
    have L:c=32\/c=9:=by simpa [blank]using z
    have o:∀p,(Instr.next (.pointer (v.heap.size+1+1+1+1,0)) true p).run Tryz.prog wr=_:=λp=>Lib.run_next_ascii_at wr _ ⟨s.toArray⟩ k p a q (by rw[O];rcases L with rfl|rfl<;>decide)
    rw[O]at o;have E:=u.iterAt a (k+1);have I:=Lib.below_iterAt w (k:=v.heap.size+1+1+1+1) (by omega) ⟨s.toArray⟩ (k+1);have S:=J (Lib.iterAt_heap wr _ ⟨s.toArray⟩ k (k+1) a);have XJ:=J f;clear h H O f z x a;generalize wr.iterAt (v.heap.size+1+1+1+1) ⟨s.toArray⟩ (k+1)=P at*
    rcases L with rfl|rfl
    all_goals
     go_wp2_with (go_at_call 88;refine(Nu _ _ s n k E Y hs).mono ?_;rintro e g ⟨rfl,i,Z,Yr⟩)
     go_roundw
     case rel=>exact⟨rfl,k+1,b g (Yr.same _ _ S rfl) i (I.trans Z)⟩
     case measure=>have Q:=iterPos_of (Yr.same _ _ S rfl);rw[Q,XJ.out];omega
   have T:∃r d:Nat,Utf8.decode ⟨s.toArray⟩ k=(r,d)/\((r:Int)==35)=false/\((r:Int)==32)=false/\((r:Int)==9)=false/\r<=2147483647/\1<=d/\k+d<=s.length/\∀j c,k<=j->j<k+d->s[j]?=some c->blank c=false/\c≠35:=RD s k c H x (by simpa using z);obtain⟨r,d,M,ab,ac,ad,ak,T,aa,C⟩:=T;obtain⟨t1,t2,t3⟩:=Ni s k d T aa (λj c Q X h3=>(C j c Q X h3).1);have o:∀p,(Instr.next (.pointer (v.heap.size+1+1+1+1,0)) true p).run Tryz.prog wr=_:=λp=>Lib.run_next_any_at wr _ ⟨s.toArray⟩ k p a q
   rw[M]at o;have b:Hid (∀g,g.heap[v.heap.size+1+1+1+1]?=some (.stringIter ⟨s.toArray⟩ (k+d))->qz v.heap.size s n (if(run (s.take k)).cur=[]then(k:Int)else((run (s.take k)).fr:Int)) (num n (run (s.take k)).told) g->Below v v g->CZ v s n (k+d) g):=by
    intro g Q X h3;refine⟨Q,by omega,λj e hj he=> ?_,?_,h3⟩
    .by_cases R:j<k
     .exact h j e R he
     exact(C j e (by omega) hj he).2
    rw[Ny t2,t1,t3];by_cases D:(run (s.take k)).cur=[]
    .simpa [D]using X
    simpa [D]using X
   have E:=u.iterAt a (k+d);have I:=Lib.below_iterAt w (k:=v.heap.size+1+1+1+1) (by omega) ⟨s.toArray⟩ (k+d);have S:=J (Lib.iterAt_heap wr _ ⟨s.toArray⟩ k (k+d) a);have XJ:=J f;clear h H O f z x a M C t1 t2 t3 u w;simp only at o;generalize wr.iterAt (v.heap.size+1+1+1+1) ⟨s.toArray⟩ (k+d)=P at*
   by_cases D:(run (s.take k)).cur=[]
   .rw[RY D]at E;rw[if_pos D]at b;obtain⟨V,W,F,A,al,K,G⟩:=E;have x3:P.cell? (v.heap.size+1+1+1,0)=some (.int .i64 (-1)):=F.cell 0;have y3:=F.frozen 0;clear D;have uZ:=J (b (P.setCell (v.heap.size+1+1+1,0) (.int .i64 k)) ((KeepsOthers.setCell _ _ _).same _ _ S rfl) ⟨V.I (by simp;omega) _,W.I (by simp) _,F.set 0 _,A,al,K.I (by simp) _,ownsRow_setCell_below G (by simp) _⟩ (I.setCell (by simp;omega) _));have U:=J (iterPos_of ((KeepsOthers.setCell P (v.heap.size+1+1+1,0) (.int .i64 k)).same _ _ S rfl));clear V W F K G b I;go_wp2;go_roundw
    case rel=>exact⟨rfl,k+d,uZ⟩
    case measure=>rw[U.out,XJ.out];omega
   rw[Ny D]at E;rw[if_neg D]at b;have uZ:=J (b P S E I);obtain⟨V,W,F,A,al,K,G⟩:=E;have x3:P.cell? (v.heap.size+1+1+1,0)=some (.int .i64 ((run (s.take k)).fr:Int)):=F.cell 0;clear D V W F K G b I;have U:=J (iterPos_of S);go_wp2;go_roundw
   case rel=>exact⟨rfl,k+d,uZ⟩
   case measure=>rw[U.out,XJ.out];omega
  obtain rfl:k=s.length:=by omega
  have m:=J (OX s s.length Y h (λc' y=>by rw[qn (ae _)]at y;cases y));have o:∀p,(Instr.next (.pointer (v.heap.size+1+1+1+1,0)) true p).run Tryz.prog wr=_:=λp=>Lib.run_next_end_at wr _ ⟨s.toArray⟩ s.length p a q
  clear h f a;go_wp2_with (go_at_call 88;refine(Nu _ _ s n s.length u Y hs).mono ?_;rintro e g ⟨rfl,i,Z,Yr⟩;obtain⟨V,W,F,A,al,K,G⟩:=i;have x4:g.cell? (v.heap.size+1+1,0)=some (A (num n (run (s.take s.length)).all).length al):=K.cell 0)
  try rw[Exit.noGoto_ret]
  go_ret
  refine PI v g s n s.length _ al A m (by rw[lf]) ?_ (w.trans Z);rw[lf]at G ⊢;exact G
section
open Go.ChangeShapes Go.WideShapes Go.Deep Go.Joins
theorem QE:Tryz.prog.cellsOf 3=1:=by kernel_rfl
section
variable {H:Type} {enc:TypeId×Value->H} {w:World} {base:Nat} {held:Bool}
theorem YR {g:Nat}{I:Value}{x:DataW H×List MemPlace}(h:DataW.trod enc Tryz.prog w base (λ_=>true) held g 22 [I]=some x):
  ∃(A:Option Addr) (n c:Nat) (zs:List Int),I= A n c/\n<=c/\c<=maxLen/\Rd w w.heap.size A n 1 (aC zs)/\∀z∈zs,gN z:=by
 rcases open_ints Tryz.underlying22 Tryz.underlying3 QE h with⟨d,_⟩|⟨a,e,i,zs,d,_,B,E,m,_,f,p⟩
 .simp only[tA,and_true]at d;exact⟨none,0,0,[],d,by omega,by simp,Rd.nil _ _ _ _,by simp⟩
 simp only[tA,and_true]at d;have r:zs.length=i:=by simpa using m
 have k:(aC (zs.take e)).length=e*1:=by rw[aC,lE,ot,r];have:=Nat.min_eq_left B;omega
 have t:∀z∈zs.take e,gN z:=λz m=>bounds_i64 (p z (List.mem_of_mem_take m))
 refine⟨some a,e,i,zs.take e,d,B,E,⟨k,λG=> ?_⟩,t⟩;obtain⟨b,o,s⟩:=a;have v:=f 0 (by omega);have F:s=none:=by simpa [Addr.add]using World.cell?_spot v
 subst F;have y:b<w.heap.size:=by rw[jt]at v;exact World.block_lt_of_cell? w _ v
 refine⟨b,o,rfl,y,λj u C=> ?_⟩;simp only[aC,cI,po,Option.map_eq_some_iff]at C;obtain⟨q,l,rfl⟩:=C;rw[pY]at l;split at l
 .have D:=f j (ll.1 l).1;rw[jt,List.getD_eq_getElem?_getD,l]at D;exact D
 cases l
theorem C' {W:World}{r:Reach}{v:Value}{d:DataW H}{p:List MemPlace}(b:Value.okWide Tryz.prog W r base 22 v)(h:DataW.Trod enc Tryz.prog W 0 (λ_=>true) true 22 v d p):
  ∃(A:Option Addr) (n c:Nat) (zs:List Int),v= A n c/\n<=c/\c<=maxLen/\(Rd W W.heap.size A n 1 (aC zs)/\∀z∈zs,gN z):=by
 obtain⟨a,f,g,rfl⟩:=okWide_slice Tryz.underlying22 b;obtain⟨e,i⟩:=h;exact YR i
end
end
def Oz {H:Type}(a:List B):DataW H:= .agg (a.map λs=> .lit (.string s))
theorem Qd {K:TypeId×Value->α}{r:Nat->Bool}{c:Bool}{n:Nat}{p:List MemPlace}(w:P.underlying u=some (.array n U))(he:P.underlying U=some .string)(a:P.cellsOf U=1)(j:P.cellsOf u=n)(h:DataW.trod K P W g r c d u f=some (Oz i,p)):f=strs i:=by
 cases d with
 |zero=>simp[DataW.trod]at h
 |succ d=>
  simp only[DataW.trod,w,a,j,Nat.mul_one]at h;split at h
  .rename_i E;obtain⟨k,q,v⟩:=Option.map_eq_some_iff.1 h;have I:k.map (·.1)=i.map λs=>(DataW.lit (.string s):DataW α):=by have:=congrArg Prod.fst v;simpa [Oz]using this
   have x:k.length=n:=by simpa using Lib.mapM_length q
   have y:i.length=n:=by have:=congrArg List.length I;simp at this;omega
   apply List.ext_getElem?;intro t;by_cases hi:t<n
   .obtain⟨b,z,A⟩:=Lib.mapM_at q t t (by simp[hi]);obtain⟨s,C,rfl,_⟩:=DataW.trod_string he A;have D:f[t]?=some (.string s):=by have:=congrArg (·[0]?) C;simpa [pY,List.getElem?_drop]using this
    have l:(k.map (·.1))[t]?=some (DataW.lit (.string s.data.toList):DataW α):=by simp[z]
    rw[I]at l;simp only[po,Option.map_eq_some_iff,DataW.lit.injEq,Lit.string.injEq]at l;obtain⟨F,m,o⟩:=l;rw[D];simp only[strs,po,m,Option.map_some,n',Value.string.injEq];subst o;rfl
   rw[qn (by omega),qn (by simp[strs];omega)]
  cases h
def ma (P:Program)(w:World)(n:String)(d:DataW Unit):Prop:=∃g t b a p,P.globalNamed n=some g/\(P.globals[g]?).map (·.type)=some t/\w.var? P n=some b/\DataW.trod (λ_=>()) P w 0 (λ_=>true) false a t b.toList=some (d,p)
theorem BU:∀ {l:List (String×DataW Unit)} {c:List MemPlace},DataW.LaidVars P W l c->∀n d,(n,d)∈l->ma P W n d
 |[],_,_,_,_,b=>by cases b
 |(s,u)::r,c,h,n,d,b=>by
  obtain⟨g,t,f,a,p,q,i,j,k,m,o,_⟩:=h;rcases lx.1 b with e|e
  .cases e;exact⟨g,t,f,a,p,i,j,k,m⟩
  exact BU o n d e
theorem kP {l:List (String×DataW Unit)}(h:laidMet P l W){n:String}{d:DataW Unit}(a:(n,d)∈l):ma P W n d:=
 let ⟨_,b,_⟩:=h
 BU b n d a
theorem Ky {P:Program}{w:World}{n:String}{g:Nat}{e:Array Value}(c:P.globalNamed n=some g)(h:w.var? P n=some e):∃t a,w.heap[g]?=some (.cells e t a):=by
 unfold World.var? at h;rw[c]at h;simp only[Option.bind_some]at h;split at h
 .rename_i d t a b;cases h;exact⟨t,a,b⟩
 cases h
theorem uk {n:String}(h:ma P W n (Oz i))(j:P.globalNamed n=some g)(a:(P.globals[g]?).map (·.type)=some u)(l:P.underlying u=some (.array d U))(he:P.underlying U=some .string)(b:P.cellsOf U=1)(c:P.cellsOf u=d):nF W g (strs i):=by
 obtain⟨v,x,y,k,p,t,f,o,q⟩:=h;obtain rfl:=Option.some.inj (j.symm.trans t);obtain rfl:=Option.some.inj (a.symm.trans f);have:=Qd l he b c q;obtain⟨r,s,w⟩:=Ky j o;exact⟨r,s,by rw[w,<-this]⟩
theorem Ex {n:String}{k:IntKind}{zs:List Int}(h:ma P W n (.agg (zs.map λz=> .lit (.int k z))))(i:P.globalNamed n=some g)(a:(P.globals[g]?).map (·.type)=some u)(l:P.underlying u=some (.array d U))(he:P.underlying U=some (.int k))(b:P.cellsOf U=1)(c:P.cellsOf u=d):nF W g (zs.map λz=>Value.int k z):=by
 obtain⟨v,x,y,j,p,t,f,o,q⟩:=h;obtain rfl:=Option.some.inj (i.symm.trans t);obtain rfl:=Option.some.inj (a.symm.trans f);have:=Lib.cells_of_tab l he b c q;obtain⟨r,s,w⟩:=Ky i o;exact⟨r,s,by rw[w,<-this]⟩
theorem Ay {n:String}{d:DataW Unit}(h:ma P W n d)(b:P.globalNamed n=some g):g<W.heap.size:=by obtain⟨j,k,l,a,p,c,e,f,m⟩:=h;obtain⟨o,q,i⟩:=Ky b f;exact(mq.1 i).1
def ld {α:Type}(R:Rel α)(a:Nat)(w:World)(S:Bs)(r:RV)(b:List α):Prop:=r.n=b.length/\Fl R a w S r.xs b
theorem ld.tr {R:Rel α}(a:R.Ok){w':World}{c:Rows}{d:List α}(h:ld R g W (Fz W z) r d)(t:Tr W z w' c):ld R g w' (Fz w' c) r d:=⟨h.1,t.V a h.2⟩
theorem ld.nil (R:Rel α)(a:Nat)(w:World)(S:Bs):ld R a w S RV.nil []:=⟨rfl,Fl.nil⟩
def pN (w:World)(S:Bs)(f h i b c d e:RV)(k:List hU):Prop:=
 f.n=k.length/\((k=[]/\f.xs=[])\/∃a g j,k=a++[g]/\
  f.xs=j++[.string ⟨g.gn.toArray⟩,.int .i64 g.gL,.bool g.i6,h.v,i.v,b.v,c.v,d.v,e.v]/\gN g.gL/\Fl iA 9 w S j a/\
  ld lr 3 w S h g.gk/\ld gS 1 w S i g.gO/\ld lS 3 w S b g.gi/\ld mc 4 w S c g.gh/\ld md 4 w S d g.gx/\ld ky 2 w S e g.gR)
theorem pN.tr {w':World}{j k a b c d:RV}{A:List hU}(h:pN W (Fz W l) r j k a b c d A)(t:Tr W l w' z):pN w' (Fz w' z) r j k a b c d A:=by
 refine⟨h.1,?_⟩;rcases h.2 with h|⟨e,g,rv,m,n,o,q,i,u,v,x,y,f⟩
 .exact .inl h
 exact .inr ⟨e,g,rv,m,n,o,t.V iA.ok q,i.tr lr.ok t,u.tr gS.ok t,v.tr lS.ok t,x.tr mc.ok t,y.tr md.ok t,f.tr ky.ok t⟩
def tM (w:World)(S:Bs)(c b:RV)(d:List gH):Prop:=c.n=d.length/\((d=[]/\c.xs=[])\/∃a l e,d=a++[l]/\c.xs=e++[.int .i64 l.gd,.bool l.nj,b.v]/\gN l.gd/\Fl jn 3 w S e a/\ld lj 6 w S b l.gC)
theorem tM.tr {w':World}{c:RV}{d:List gH}(h:tM W (Fz W z) c r d)(t:Tr W z w' l):tM w' (Fz w' l) c r d:=by
 refine⟨h.1,?_⟩;rcases h.2 with h|⟨b,m,e,f,g,i,j,k⟩
 .exact .inl h
 exact .inr ⟨b,m,e,f,g,i,t.V jn.ok j,k.tr lj.ok t⟩
def pC (w:World)(S:Bs)(cm:Nat)(a:List (B×List Int)):Prop:=∃f,j9 oJ w cm f/\∀t,(a.lookup t=none/\f t=none)\/∃l A c,a.lookup t=some l/\f t=some (.slice A l.length c)/\Sl gS 1 w S A l/\l.length<=2000
structure FD (w:World)(S:Bs)(rv:Rows)(f:iu):Prop where
 gt:gN f.gt
 p:pN w S (rv 0) (rv 8) (rv 9) (rv 10) (rv 11) (rv 12) (rv 13) f.ga
 Y:ld kO 2 w S (rv 1) f.f6
 u:tM w S (rv 2) (rv 14) f.ge
 G:ld kn 2 w S (rv 3) f.a'
 E:ld kI 4 w S (rv 4) f.gM
 H:ld ko 1 w S (rv 5) f.d'
 F:ld kx 1 w S (rv 6) f.fY
 gP:ld gS 1 w S (rv 7) f.gP
theorem FD.tr {w':World}{f:iu}(h:FD W (Fz W z) z f)(t:Tr W z w' l):FD w' (Fz w' l) z f:=⟨h.gt,h.p.tr t,h.Y.tr kO.ok t,h.u.tr t,h.G.tr kn.ok t,h.E.tr kI.ok t,h.H.tr ko.ok t,h.F.tr kx.ok t,h.gP.tr gS.ok t⟩
def eQ (s:PS)(rv:Rows)(gm cm:Nat):Array Value:=#[s.f.gt,(rv 0).v,(rv 1).v,(rv 2).v,(rv 3).v,(rv 4).v,(rv 5).v,(rv 6).v,(rv 7).v,.bool s.gt,.map (some gm),.map (some cm)]
abbrev kJ:TypeId:=93
abbrev UL:TypeId:=169
structure ie (w:World)(Bd p gm cm:Nat)(gl:Gl)(s:PS)(rv:Rows)(K:Nat):Prop where
 par:Bk w p kJ (eQ s rv gm cm)
 live:Live w Bd rv
 D:FD w (Fz w rv) rv s.f
 r:j9 oJ w gm (λt=>(gl.lookup t).map λn=> .int .i64 (n:Nat))
 m:∀t n,gl.lookup t=some n->n<=1000000000
 ia:pC w (Fz w rv) cm s.ia
 i:∀j,j<15->(rv j).n<=K
 low:Bd<=p/\Bd<=gm/\Bd<=cm/\gm≠cm
theorem j9.rp {E:sa α}{f: α ->Option Value}(h:j9 E W g f)(a:Bk W g u n):False:=by obtain⟨e,c,d⟩:=h.isMap;unfold Bk at a;rw[d]at a;cases a
theorem Bk.keep {w':World}(h:Bk W g u n)(a:w'.heap[g]?=W.heap[g]?):Bk w' g u n:=a.trans h
theorem pC.tr {w':World}{a:List (B×List Int)}(h:pC W (Fz W z) g a)(t:Tr W z w' l)(b:w'.heap[g]?=W.heap[g]?):pC w' (Fz w' l) g a:=by
 obtain⟨f,d,e⟩:=h;refine⟨f,d.keep b,λx=> ?_⟩;rcases e x with h|⟨cm,A,c,m,i,j,k⟩
 .exact .inl h
 exact .inr ⟨cm,A,c,m,i,t.sl gS.ok j,k⟩
theorem pC.lt {S:Bs}{a:List (B×List Int)}(h:pC W S g a):g<W.heap.size:=by obtain⟨f,b,c⟩:=h;exact b.lt
section
variable {w w':World} {Bd p gm cm:Nat} {gl:Gl} {s:PS} {rv:Rows} {K:Nat}
theorem ie.mono (h:ie w Bd p gm cm gl s rv K){c:Nat}(a:K<=c):ie w Bd p gm cm gl s rv c:= {h with i:=λj b=>nt (h.i j b) a}
theorem ie.below (h:ie w Bd p gm cm gl s rv K)(a:Below w w w'):ie w' Bd p gm cm gl s rv K:={par:=h.par.keep (a.block p h.par.lt),live:=h.live.below a,D:=h.D.tr (Tr.below a),r:=h.r.below a,m:=h.m,ia:=h.ia.tr (Tr.below a) (a.block cm h.ia.lt),i:=h.i,low:=h.low}
theorem ie.other (h:ie w Bd p gm cm gl s rv K){row:Nat}(a:w.grownBy w' (some row)){t:TypeId}{n:Array Value}(c:Bk w row t n)(d:nM t=false)(i:t≠kJ):ie w' Bd p gm cm gl s rv K:=by
 have b:∀g,some row=some g->∀t n,Bk w g t n->nM t=false:=λg e m k l=>by
  injection e with e
  subst e;rw[(dw l c).1];exact d
 have j:Tr w rv w' rv:=Tr.other a b;refine {par:=h.par.keep (a.block p h.par.lt λe=> ?_),live:=h.live.other a b,D:=h.D.tr j,r:=h.r.grown a λe=> ?_,m:=h.m,ia:=h.ia.tr j (a.block cm h.ia.lt λe=> ?_),i:=h.i,low:=h.low}
 .injection e with e
  subst e;exact i (dw c h.par).1
 .injection e with e
  subst e;exact h.r.rp c
 injection e with e
 subst e;obtain⟨f,d,i⟩:=h.ia;exact d.rp c
theorem ie.drewN (h:ie w Bd p gm cm gl s rv K)(n:Nat):ie (w.drewN n) Bd p gm cm gl s rv K:=h.below ⟨rfl,rfl,rfl,ae _,λ_ _=>rfl⟩
theorem ie.sR (h:ie w Bd p gm cm gl s rv K){i:Nat}(hi:i<15):(rv i).v.ownBlock≠some p/\(rv i).v.ownBlock≠some gm/\(rv i).v.ownBlock≠some cm:=by
 refine⟨λe=> ?_,λe=> ?_,λe=> ?_⟩<;>obtain⟨c,a⟩:=dY (h.live.own i hi) e
 .have:=(dw a h.par).1;have b:=yN i;rw[this]at b
  revert b
  decide
 .exact h.r.rp a
 obtain⟨f,d,g⟩:=h.ia;exact d.rp a
theorem ie.row (h:ie w Bd p gm cm gl s rv K){i:Nat}(hi:i<15){r:RV}(a:w.grownBy w' (rv i).v.ownBlock)(d:w'.ownsRow Bd (kT i) (kS i) r.v r.n r.xs)
  (b:r.v.ownBlock=(rv i).v.ownBlock\/∀g,r.v.ownBlock=some g->w.heap.size<=g):
  Bk w' p kJ (eQ s rv gm cm)/\Live w' Bd (iK rv i r)/\Tr w rv w' (iK rv i r)/\j9 oJ w' gm (λt=>(gl.lookup t).map λn=> .int .i64 (n:Nat))/\pC w' (Fz w' (iK rv i r)) cm s.ia:=by
 obtain⟨f,j,k⟩:=h.sR hi;have c:=Tr.row (rv:=rv) hi a b;exact⟨h.par.keep (a.block p h.par.lt (λe=>f e.symm)),h.live.row hi a d b,c,h.r.grown a (λe=>j e.symm),h.ia.tr c (a.block cm h.ia.lt (λe=>k e.symm))⟩
theorem ie.tO {s':PS}{A:Rows}{cs:Array Value}(b:Bk w p kJ cs)(l:Live w Bd A)(m:FD w (Fz w A) A s'.f)(i:j9 oJ w gm (λt=>(gl.lookup t).map λn=> .int .i64 (n:Nat)))(hi:∀t n,gl.lookup t=some n->n<=1000000000)
  (d:pC w (Fz w A) cm s'.ia) (o:∀j,j<15->(A j).n<=K) (q:Bd<=p/\Bd<=gm/\Bd<=cm/\gm≠cm) (j:Nat) (u:Value) (h:cs.setIfInBounds j u=eQ s' A gm cm):ie (w.setCell ⟨p,j,none⟩ u) Bd p gm cm gl s' A K:=by
 have c:=fZ w ⟨p,j,none⟩ u;have a:∀g,some p=some g->∀t cs,Bk w g t cs->nM t=false:=λg e y r v=>by
  injection e with e
  subst e;rw[(dw v b).1];decide
 have k:Tr w A (w.setCell ⟨p,j,none⟩ u) A:=Tr.other c a;refine {par:= ?_,live:=l.other c a,D:=m.tr k,r:=i.grown c λe=> ?_,m:=hi,ia:=d.tr k (c.block cm d.lt λe=> ?_),i:=o,low:=q}
 .rw[<-h];exact b.set j u
 .injection e with e
  subst e;exact i.rp b
 injection e with e
 subst e;obtain⟨f,x,z⟩:=d;exact x.rp b
end
def N9 (n:Int):Prop:= -999999999<=n/\n<=999999999
def nI (p:List Ins):Prop:=∀i∈p,1<=i.op/\i.op<=39/\N9 i.a
def In (n:Nat)(x:Int):Prop:=0<=x/\x<n
def jM:Nat->List Int->Nat->Prop
 |fr,[],a=>fr=a
 |fr,e::b,a=>(fr:Int)<=e/\e<a/\jM (e.toNat+1) b a
structure rl (n:Nat)(g:hU):Prop where
 gn:hZ g.gn=true
 oo:N9 g.gL
 h:∀p∈g.gk,N9 p.x/\N9 p.y
 gO:jM 0 g.gO g.gk.length
 gi:∀p∈g.gi,In n p.z/\N9 p.x/\N9 p.y
 M:∀a∈g.gh,1<=a.gd/\a.gd<=4/\N9 a.ia/\N9 a.x/\N9 a.y
 o:∀d∈g.gx,N9 d.region/\N9 d.ii/\N9 d.x/\N9 d.y
 gR:nI g.gR
def pf (n:Nat)(s:List Int):Prop:=s.Pairwise (· < ·)/\∀x∈s,In n x
structure qw (n:Nat)(gd:Int)(r:k'):Prop where
 gE:∀s∈r.gE,pf n s
 ij:∀s∈r.ij,pf n s
 ahead:∀s∈r.ahead,pf n s
 out:∀x∈r.out,In n x
 gw:∀c∈r.gw,N9 c.iB/\N9 c.lookup
 x:N9 r.x
 one:gd=1\/gd=5->∃s,r.ij=[s]/\r.out.length=s.length
 outs:gd=4\/6<=gd->r.out=[]
 uW:gd≠4->r.gw=[]
 u':gd≠6->r.x=0
structure sd (f:iu):Prop where
 gt:N9 f.gt
 gM:∀a∈f.gM,hZ a.gn=true/\N9 a.km/\N9 a.kA/\N9 a.kv
 e:∀r∈f.d',∀t∈r.kB,N9 t.start/\N9 t.jx/\N9 t.jz
 gP:∀n∈f.gP,N9 n
 fY:∀p∈f.fY,nI p
 apart:(f.ga.map (·.gn)).Nodup
 ga:∀g∈f.ga,rl f.ga.length g
 f6:∀c∈f.f6,N9 c.jN/\In f.ga.length c.z
 ge:∀l∈f.ge,1<=l.gd/\l.gd<=8/\∀r∈l.gC,qw f.ga.length l.gd r
 k:∀x∈f.a',hZ x.gn=true/\∀n∈x.ge,N9 n
 i:f.ga.length<=1000
def TK (c:UInt8):Bool:=iF c||c==45
theorem yG (u:Nat):∀c∈Lib.decDigits u,iF c=true:=by
 induction u using Nat.strongRecOn with
 |_ u b=>
  rw[Lib.decDigits];split
  .intro c a;simp only[js]at a;subst a;rw[oH,UInt8.toNat_ofNat'];omega
  intro c a;rw[jp,js]at a;rcases a with a|rfl
  .exact b (u / 10) (by omega) c a
  rw[oH,UInt8.toNat_ofNat'];omega
theorem Wh (u:Nat):qo (Lib.decDigits u)=u:=by
 induction u using Nat.strongRecOn with
 |_ u a=>
  rw[Lib.decDigits];split
  .have e:[UInt8.ofNat (48+u)]=[]++[UInt8.ofNat (48+u)]:=rfl;rw[e,Bi,UInt8.toNat_ofNat'];have:qo []=0:=rfl;omega
  rw[Bi,a (u / 10) (by omega),UInt8.toNat_ofNat'];omega
theorem WR (k:Nat):∀u,u<10 ^ (k+1)->Lib.nDigits u<=k+1:=by
 induction k with
 |zero=>intro u a;rw[Lib.nDigits_small (by simpa using a)];exact ae _
 |succ k b=>
  intro u a;by_cases h:u<10
  .rw[Lib.nDigits_small h];omega
  rw[Lib.nDigits_big h];have:=b (u / 10) (by rw[Nat.pow_succ]at a;omega);omega
theorem Hg (u:Nat)(h:u<=999999999):1<=(Lib.decDigits u).length/\(Lib.decDigits u).length<=9:=by rw[Lib.decDigits_length];exact⟨Lib.nDigits_pos u,WR 8 u (by show u<1000000000;omega)⟩
theorem We (u:Nat)(h:u<=999999999):wM (Lib.decDigits u)=true:=TL _ (yG u) (Hg u h).1 (Hg u h).2
theorem Rz (u:Nat):∃c r,Lib.decDigits u=c::r/\c≠45:=by
 cases h:Lib.decDigits u with
 |nil=>have:=Lib.decDigits_length u;have:=Lib.nDigits_pos u;rw[h]at*;simp at*;omega
 |cons c r=>
  refine⟨c,r,rfl,λe=> ?_⟩;have:=yG u c (by rw[h];simp);rw[e]at this
  revert this
  decide
theorem fJ (n:Int)(h:N9 n):yI (ag n)=true/\aI (ag n)=n:=by
 unfold N9 at h;unfold ag Lib.itoa;split
 .have e:iJ (45::Lib.decDigits n.natAbs)=Lib.decDigits n.natAbs:=rfl;have b:signed (45::Lib.decDigits n.natAbs)=true:=rfl;have a:=We n.natAbs (by omega);refine⟨by rw[yI,e,a],?_⟩;rw[aI,e,b,if_pos a,if_pos rfl,Wh];omega
 obtain⟨c,r,d,f⟩:=Rz n.toNat;have e:iJ (Lib.decDigits n.toNat)=Lib.decDigits n.toNat/\signed (Lib.decDigits n.toNat)=false:=by
  rcases zU (Lib.decDigits n.toNat)with⟨j,h,_⟩|⟨g,i,_⟩
  .rw[d]at h;injection h with h _
   exact absurd h f
  exact⟨g,i⟩
 have a:=We n.toNat (by omega);refine⟨by rw[yI,e.1,a],?_⟩;rw[aI,e.1,e.2,if_pos a,Wh];simp;omega
theorem sV (n:Int):∀c∈ag n,TK c=true:=by
 intro c hc;unfold ag Lib.itoa at hc;split at hc
 .rw[lx]at hc;rcases hc with rfl|hc
  .decide
  simp[TK,yG _ c hc]
 simp[TK,yG _ c hc]
theorem Th (n:Int):ag n≠[]:=by
 unfold ag Lib.itoa;split
 .simp
 obtain⟨c,r,a,b⟩:=Rz n.toNat;rw[a];simp
theorem jy {c:UInt8}(h:TK c=true):DZ c=true/\c≠58/\c≠44/\c≠42/\c≠64/\c≠47/\c≠62/\c≠91/\c≠93:=by
 simp only[TK,Bool.or_eq_true,oH,beq_iff_eq]at h;refine⟨?_,?_,?_,?_,?_,?_,?_,?_,?_⟩
 .simp only[DZ,np,bne_iff_ne,ne_eq];refine⟨⟨⟨?_,?_⟩,?_⟩,?_⟩<;>(rintro rfl;revert h;decide)
 all_goals (rintro rfl;revert h;decide)
theorem vw (n:Int):dA (ag n)=true:=by simp only[dA,np,Bool.not_eq_true',List.isEmpty_eq_false_iff,pZ];exact⟨Th n,λc a=>(jy (sV n c a)).1⟩
theorem iQ (n:Int)(h:N9 n)(e:Int):aP e (ag n)=e:=by rw[aP,if_neg (by rw[(fJ n h).1];simp)]
theorem zn (l:List Int)(h:∀n∈l,N9 n)(e:Int):gu e (l.map ag)=e:=by
 induction l generalizing e with
 |nil=>rfl
 |cons n r a=>have:gu e ((n::r).map ag)=gu (aP e (ag n)) (r.map ag):=rfl;rw[this,iQ n (h n (by simp)),a (λm b=>h m (by simp[b]))]
theorem JM (l:List Int)(h:∀n∈l,N9 n):(l.map ag).map aI=l:=by
 rw[xz]
 conv=>rhs;rw[<-List.map_id l]
 exact List.map_congr_left (λn a=>(fJ n (h n a)).2)
theorem yv (h:hZ k=true):∀c∈k,DZ c=true/\c≠58/\c≠44/\c≠42/\c≠64/\c≠47/\c≠62/\c≠91/\c≠93:=by
 intro c b;obtain⟨s,d⟩:=pn.1 b;have a:nameAt s c=true:=by rw[<-Bool.not_eq_false];intro e;rw[JL k s c d e]at h;cases h
 rw[rf]at a;refine⟨?_,?_,?_,?_,?_,?_,?_,?_,?_⟩
 .simp only[DZ,np,bne_iff_ne,ne_eq];refine⟨⟨⟨?_,?_⟩,?_⟩,?_⟩<;>(rintro rfl;simp at a)
 all_goals (rintro rfl;simp at a)
theorem Pe (h:hZ k=true):k≠[]:=by
 rintro rfl
 revert h
 decide
theorem sW (h:hZ k=true):dA k=true:=by simp only[dA,np,Bool.not_eq_true',List.isEmpty_eq_false_iff,pZ];exact⟨Pe h,λc a=>(yv h c a).1⟩
theorem JA (h:hZ k=true)(e:Int):bQ e k=e:=by rw[bQ,if_neg (by rw[h];simp)]
theorem Rw {c:UInt8}{b:B}(h:∀d∈k,d≠c):dH c (k++c::b)=k/\dZ c (k++c::b)=b:=by
 induction k with
 |nil=>simp[dH,dZ]
 |cons d r f=>
  obtain⟨g,i⟩:=f (λx j=>h x (by simp[j]));have e:(d !=c)=true:=by simpa using h d (by simp)
  constructor
  .show List.takeWhile (· !=c) (d::(r++c::b))=_;rw[List.takeWhile_cons_of_pos (p:=λx=>x !=c) e];exact congrArg _ g
  show(List.dropWhile (· !=c) (d::(r++c::b))).drop 1=_;rw[List.dropWhile_cons_of_pos (p:=λx=>x !=c) e];exact i
theorem zw {c:UInt8}(h:∀d∈k,d≠c):dH c k=k/\dZ c k=[]:=by
 induction k with
 |nil=>simp[dH,dZ]
 |cons d r e=>
  obtain⟨f,g⟩:=e (λx i=>h x (by simp[i]));have b:(d !=c)=true:=by simpa using h d (by simp)
  constructor
  .show List.takeWhile (· !=c) (d::r)=_;rw[List.takeWhile_cons_of_pos (p:=λx=>x !=c) b];exact congrArg _ f
  show(List.dropWhile (· !=c) (d::r)).drop 1=_;rw[List.dropWhile_cons_of_pos (p:=λx=>x !=c) b];exact g
theorem kh {c:UInt8}(h:∀d∈k,d≠c):k.count c=0:=List.count_eq_zero.2 (λb=>h c b rfl)
theorem Ew {c:UInt8}(h:∀d∈k,d≠c):k.contains c=false:=by rw[<-Bool.not_eq_true,List.contains_iff_mem];exact λb=>h c b rfl
theorem KZ:∀k:Fin 39,∃s,opNames[k.val]?=some s/\vI s=(k.val:Int)+1/\dA s=true/\(∀c∈s,c≠58/\c≠44/\c≠42/\c≠47/\c≠62):=by decide+kernel
theorem CT (n:Int)(f:1<=n)(g:n<=39):vI (nK n)=n/\dA (nK n)=true/\∀c∈nK n,c≠58/\c≠44/\c≠42/\c≠47/\c≠62:=by
 obtain⟨s,a,b,d,e⟩:=KZ ⟨(n - 1).toNat,by omega⟩;have:nK n=s:=by unfold nK pick;rw[if_neg (by omega)];simp only at a;rw[a];rfl
 rw[this];simp only at b;exact⟨by omega,d,e⟩
theorem Kc (i:Ins)(h:1<=i.op/\i.op<=39/\N9 i.a)(e:Int):uH e (dO i)=e/\lD (dO i)=i/\(dO i).count 58<=1/\dA (dO i)=true:=by
 obtain⟨p,q,k⟩:=h;obtain⟨l,m,r⟩:=CT i.op p q;have hc:∀d∈nK i.op,d≠58:=λd f=>(r d f).1
 by_cases n:i.a=0
 .have g:dO i=nK i.op:=by simp[dO,n]
  obtain⟨j,c2⟩:=zw hc;rw[g,uH,lD,Ew hc,j,l,kh hc];refine⟨?_,?_,by omega,m⟩
  .simp;omega
  cases i
  simp_all
 have g:dO i=nK i.op++58::ag i.a:=by simp[dO,n]
 obtain⟨j,c2⟩:=Rw (b:=ag i.a) hc;have o:(nK i.op++58::ag i.a).contains 58=true:=by simp
 have s:∀d∈ag i.a,d≠58:=λd f=>(jy (sV _ d f)).2.1
 rw[g,uH,lD,if_pos o,if_pos o,j,c2,l,(fJ i.a k).2];refine⟨?_,?_,?_,?_⟩
 .rw[if_neg (by omega),iQ _ k]
 .cases i;rfl
 .rw[List.count_append,List.count_cons,kh hc,kh s];simp
 simp only[dA,np,Bool.not_eq_true',List.isEmpty_eq_false_iff,pZ,jp,lx];refine⟨by simp,λc hc=> ?_⟩;rcases hc with hc|rfl|hc
 .exact CJ m c hc
 .decide
 exact(jy (sV _ c hc)).1
theorem Gm (p:List Ins)(h:nI p)(e:Int):(p.map dO).foldl uH e=e/\(p.map dO).map lD=p/\AX (p.map dO)=true/\∀w∈p.map dO,dA w=true:=by
 induction p generalizing e with
 |nil=>exact⟨rfl,rfl,rfl,by simp⟩
 |cons i r b=>
  obtain⟨c,d,f,g⟩:=Kc i (h i (by simp)) e;obtain⟨k,l,a,m⟩:=b (λj n=>h j (by simp[n])) e;refine⟨?_,?_,?_,?_⟩
  .rw[lP,o0,c,k]
  .rw[lP,lP,d,l]
  .unfold AX at a ⊢;rw[lP,List.all_cons,a];simpa using f
  intro w hw;rw[lP,lx]at hw;rcases hw with rfl|hw
  .exact g
  exact m w hw
theorem Nd (p:Pt)(h:N9 p.x/\N9 p.y)(e:Int):AB e (jZ p)=e/\uo (jZ p)=p/\og (jZ p)=true/\dA (jZ p)=true:=by
 obtain⟨k,l⟩:=h;have t:∀d∈ag p.x,d≠44:=λd hd=>(jy (sV _ d hd)).2.2.1
 have v:∀d∈ag p.y,d≠44:=λd hd=>(jy (sV _ d hd)).2.2.1
 have w:∀d∈ag p.x,d≠42:=λd hd=>(jy (sV _ d hd)).2.2.2.1
 have z:∀d∈ag p.y,d≠42:=λd hd=>(jy (sV _ d hd)).2.2.2.1
 have n:∀d∈ag p.x++44::ag p.y,d≠42:=by
  intro d hd;rw[jp,lx]at hd;rcases hd with hd|rfl|hd
  .exact w d hd
  .decide
  exact z d hd
 obtain⟨u,c2⟩:=Rw (b:=ag p.y) t;have a:(ag p.x++44::ag p.y).count 44=1:=by rw[List.count_append,List.count_cons,kh t,kh v];simp
 have f:∀c∈ag p.x++44::ag p.y,DZ c=true:=by
  intro d hd;rw[jp,lx]at hd;rcases hd with hd|rfl|hd
  .exact(jy (sV _ d hd)).1
  .decide
  exact(jy (sV _ d hd)).1
 cases i:p.on with
 |true=>
  have o:jZ p=ag p.x++44::ag p.y:=by simp[jZ,i]
  have m:(ag p.x++44::ag p.y).getLast? ≠some 42:=λh=>n 42 (List.mem_of_getLast? h) rfl
  have q:fC (ag p.x++44::ag p.y)=ag p.x++44::ag p.y:=by rw[fC,if_neg m]
  rw[o,AB,uo,og,q,u,c2,a,Ew n,iQ _ k,iQ _ l,(fJ _ k).2,(fJ _ l).2];refine⟨rfl,?_,rfl,?_⟩
  .cases p
   simp_all
  simp only[dA,np,Bool.not_eq_true',List.isEmpty_eq_false_iff,pZ];exact⟨by simp,f⟩
 |false=>
  have o:jZ p=(ag p.x++44::ag p.y)++[42]:=by simp[jZ,i]
  have m:((ag p.x++44::ag p.y)++[42]).getLast? =some 42:=List.getLast?_concat;have q:fC ((ag p.x++44::ag p.y)++[42])=ag p.x++44::ag p.y:=by rw[fC,if_pos m,List.dropLast_concat]
  have g:((ag p.x++44::ag p.y)++[42]).count 44=1:=by rw[List.count_append,a];rfl
  have j:((ag p.x++44::ag p.y)++[42]).idxOf 42=(ag p.x++44::ag p.y).length:=by rw[List.idxOf_append,if_neg (λA=>n 42 A rfl)];simp
  rw[o,AB,uo,og,q,u,c2,g,j,m,iQ _ k,iQ _ l,(fJ _ k).2,(fJ _ l).2];refine⟨rfl,?_,?_,?_⟩
  .cases p
   simp_all
  .simp
  simp only[dA,np,Bool.not_eq_true',List.isEmpty_eq_false_iff,pZ,jp (s:=ag p.x++44::ag p.y),js];refine⟨by simp,λc r=> ?_⟩;rcases r with r|rfl
  .exact f c r
  decide
theorem Ut (l:List Pt)(h:∀p∈l,N9 p.x/\N9 p.y)(e:Int):(l.map jZ).foldl AB e=e/\(l.map jZ).map uo=l/\(l.map jZ).all og=true/\∀w∈l.map jZ,dA w=true:=by
 induction l generalizing e with
 |nil=>exact⟨rfl,rfl,rfl,by simp⟩
 |cons p r a=>
  obtain⟨b,c,d,f⟩:=Nd p (h p (by simp)) e;obtain⟨g,i,j,k⟩:=a (λq m=>h q (by simp[m])) e;refine⟨?_,?_,?_,?_⟩
  .rw[lP,o0,b,g]
  .rw[lP,lP,c,i]
  .rw[lP,List.all_cons,j,d];rfl
  intro w hw;rw[lP,lx]at hw;rcases hw with rfl|hw
  .exact f
  exact k w hw
def mh (e t:TypeId)(size:Nat):Prop:=∃i z,Tryz.prog.underlying t=some (.slice e)/\Tryz.prog.info? e=some i/\i.zero=some z/\i.size=size/\z.cells.size=size/\i.bytes<=1000/\0<size
theorem mh.mk (b:Tryz.prog.underlying U=some (.slice u))(h:(Tryz.prog.info? u).map (λi=>(i.zero.map (λz=>z.cells.size),i.size,decide (i.bytes<=1000)))=some (some g,g,true))(c:0<g):mh u U g:=by obtain⟨i,hi,he⟩:=Option.map_eq_some_iff.1 h;simp only[rE,sk]at he;obtain⟨z,d,f⟩:=Option.map_eq_some_iff.1 he.1;exact⟨i,z,b,hi,d,he.2.1,f,he.2.2,c⟩
theorem iw:mh 3 22 1:= .mk Tryz.underlying22 (by kernel_rfl) (by decide)
theorem LV:mh 22 66 1:= .mk Tryz.underlying66 (by kernel_rfl) (by decide)
theorem AC:mh 60 50 2:= .mk Tryz.underlying50 (by kernel_rfl) (by decide)
theorem LM:mh 50 30 1:= .mk Tryz.underlying30 (by kernel_rfl) (by decide)
theorem wT:mh 196 44 3:= .mk Tryz.underlying44 (by kernel_rfl) (by decide)
theorem LU:mh 54 47 3:= .mk Tryz.underlying47 (by kernel_rfl) (by decide)
theorem LH:mh 56 48 4:= .mk Tryz.underlying48 (by kernel_rfl) (by decide)
theorem Hl:mh 58 49 4:= .mk Tryz.underlying49 (by kernel_rfl) (by decide)
theorem Ht:mh 52 24 9:= .mk Tryz.underlying24 (by kernel_rfl) (by decide)
theorem LK:mh 62 25 2:= .mk Tryz.underlying25 (by kernel_rfl) (by decide)
theorem RH:mh 71 67 2:= .mk Tryz.underlying67 (by kernel_rfl) (by decide)
theorem zu:mh 69 63 6:= .mk Tryz.underlying63 (by kernel_rfl) (by decide)
theorem LQ:mh 65 26 3:= .mk Tryz.underlying26 (by kernel_rfl) (by decide)
theorem LP:mh 73 27 2:= .mk Tryz.underlying27 (by kernel_rfl) (by decide)
theorem LJ:mh 75 28 4:= .mk Tryz.underlying28 (by kernel_rfl) (by decide)
theorem Di:mh 80 29 1:= .mk Tryz.underlying29 (by kernel_rfl) (by decide)
theorem zz:mh 77 78 3:= .mk Tryz.underlying78 (by kernel_rfl) (by decide)
theorem Rb:mh 101 96 3:= .mk Tryz.underlying96 (by kernel_rfl) (by decide)
abbrev Loc (w:World)(v b:Value):Prop:=b.ownBlock=v.ownBlock\/∀g,b.ownBlock=some g->w.heap.size<=g
theorem wP {size:Nat}(E:mh g d size)(M:TypeId)(f:World)(H n c:Nat)(A:Option Addr)(K:List Value)(h:f.ownsRow H g size (A n c) n K)(L:Nat)(I:Option Addr)(m c2:Nat)(b:List Value)(v:Rd f L I m size b)(w:∀u∈b,u.oneCell'=true)(x:n+m<=100000000000)(y:H<=f):
  ∃j k w',(Builtin.append_ #[d,d] M #[A n c,I m c2]).run Tryz.prog f=.ok (.slice j (n+m) k) w'/\w'.ownsRow H g size (.slice j (n+m) k) (n+m) (K++b)/\f.grownBy w' (Value.slice A n c).ownBlock/\Loc f (A n c) (.slice j (n+m) k):=by
 obtain⟨i,z,B,hi,C,D,p,q,r⟩:=E;have t:(n+m)*i.bytes<=140737488355328:=nt (Nat.mul_le_mul x q) (by decide);obtain⟨G,w',l,s,F,hl⟩:=rC (P:=Tryz.prog) f H d M g i z size i.bytes B hi C D rfl p r (A n c) n K h L I m c2 b v w (by simp only[maxLen];omega) t y;obtain⟨j,k,rfl⟩:=mP s;refine⟨j,k,w',l,s,F,?_⟩;rcases hl with hl|hl
 .exact .inl hl
 exact .inr (λe g=>by rw[hl]at g;injection g with g;omega)
section
variable {e t size:Nat} {ops:Array Oper} {rest:List Oper} {o:Oper} {a:Act} {Q:Exit->Act->World->Prop}
theorem Dc (E:mh e t size)(k:o.guard=none)(s x:Operand)(l:o.op=.call {callee:= .builtin .append,args:= #[s,x],argTypes:= #[t,t]})
  (d:World) (F n c:Nat) (A:Option Addr) (H:List Value) (I:Nat) (G:Option Addr) (m c2:Nat) (b:List Value) (p:a.eval s= A n c) (q:a.eval x= G m c2)
  (f:d.ownsRow F e size (A n c) n H) (r:Rd d I G m size b) (v:∀u∈b,u.oneCell'=true) (w:n+m<=100000000000) (y:F<=d)
  (h:∀g i w',w'.ownsRow F e size (.slice g (n+m) i) (n+m) (H++b)->d.grownBy w' (Value.slice A n c).ownBlock->Loc d (A n c) (.slice g (n+m) i)->wpList Tryz.prog ops Q rest (a.put o.dst (.slice g (n+m) i)) w'):
  wpList Tryz.prog ops Q (o::rest) a d:=by
 obtain⟨g,i,w',j,z,B,C⟩:=wP E o.type d F n c A H f I G m c2 b r v w y;refine wpList_plain k λK D=> ?_
 unfold Oper.wp execOp;simp only[l,resolve,invoke,builtin,Sem.run_bind,Sem.run_pure,Result.andThen_ok,List.map_toArray,lP,p9,p,q,j];exact D _ _ (h g i w' z B C)
theorem jr (E:mh e t size)(p:o.guard=none)(s x:Operand)(r:o.op=.call {callee:= .builtin .append,args:= #[s,x],argTypes:= #[t,t]})
  (d:World) (f:Nat) (v:d.heap.size=f) (K n c:Nat) (A:Option Addr) (L:List Value) (b:Array Value) (w:b.size=size) (y:a.eval s= A n c) (z:a.eval x=.slice (f,0) 1 1)
  (j:d.ownsRow K e size (A n c) n L) (B:∀u∈b.toList,u.oneCell'=true) (H:n<=10000000000) (I:K<=d)
  (h:∀k l w',w'.ownsRow K e size (.slice k (n+1) l) (n+1) (L++b.toList)->d.grownBy w' (Value.slice A n c).ownBlock->Loc d (A n c) (.slice k (n+1) l)->wpList Tryz.prog ops Q rest (a.put o.dst (.slice k (n+1) l)) w'):
  wpList Tryz.prog ops Q (o::rest) a (d.alloc (.cells b e)):=by
 subst v;refine Dc E p s x r _ K n c A L (d.heap.size+1) (d,0) 1 1 b.toList y z (j.alloc _) (Rd.newAt _ _ rfl b e 1 size (by omega)) B (by omega) (by simp;omega) ?_;intro k l w' C m D;refine h k l w' C ⟨m.os,m.tape,m.output,nt (by simp) m.size,λi hi q=> ?_⟩ (D.imp id λF g G=>by have:=F g G;simp at this;omega);exact(m.block i (by simp;omega) q).trans (Below.heap_alloc _ _ _ hi)
