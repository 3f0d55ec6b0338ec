/- Lemmas. -/
import Derived.Test.YtkijckccfookeaaDoorX04
set_option linter.unusedVariables false
set_option linter.unusedSimpArgs false
set_option maxRecDepth 100000
set_option maxHeartbeats 32000000
namespace Go.Proofs.YtkijckccfookeaaDoor
section
open Go.RowKit Go.Sort
def nG:Nat:=9+1
structure Tabs (w:World):Prop where
 ops:afA w 0 (strs opNames)
 anch:afA w 2 (strs anchorNames)
 kinds:afA w 3 (strs bF)
 pow:afA w 7 (Lib.pow10Tab.map fun z=>Value.int .u64 z)
theorem Tabs.below {w w':World}{Bd:Nat}(h:Tabs w)(hb:Below Bd w w')(hg:nG<=Bd):Tabs w':=by unfold nG at hg;exact⟨h.ops.below hb (by omega),h.anch.below hb (by omega),h.kinds.below hb (by omega),h.pow.below hb (by omega)⟩
theorem Tabs.all {w w':World}(h:Tabs w)(hb:Below w.heap.size w w'):Tabs w':=⟨h.ops.below hb h.ops.lt,h.anch.below hb h.anch.lt,h.kinds.below hb h.kinds.lt,h.pow.below hb h.pow.lt⟩
theorem Tabs.tab {w:World}(h:Tabs w):Lib.TabIs Tryd.prog w "internal/strconv.uint64pow10" .u64 Lib.pow10Tab:=by
 obtain⟨t,fz,h⟩:=h.pow
 have hg:Tryd.prog.globalNamed "internal/strconv.uint64pow10" =some 7:=by kernel_rfl
 simp[Lib.TabIs,World.var?,hg,h]
theorem Lm (k:Nat):∀u,u<10 ^ (k+1)->Lib.nDigits u<=k+1:=by
 induction k with
 |zero=>intro u hu;rw[Lib.nDigits_small (by simpa using hu)];exact ai _
 |succ k ih=>
  intro u hu;by_cases h:u<10
  ·rw[Lib.nDigits_small h];omega
  rw[Lib.nDigits_big h];have:=ih (u / 10) (by rw[Nat.pow_succ] at hu;omega);omega
theorem oL {n:Int}(h:I64 n):(af n).length<=21:=by
 unfold I64 at h;have hb:∀u:Nat,u<=9223372036854775808->(Lib.decDigits u).length<=20:=fun u hu=>by
  rw[Lib.decDigits_length];exact Lm 19 u (Nat.lt_of_le_of_lt hu (by decide))
 unfold af Lib.itoa;split
 ·have:=hb n.natAbs (by omega);simp;omega
 have:=hb n.toNat (by omega);omega
theorem below_grow (w:World)(k:Nat)(os:Array Obj):Below w.heap.size w (grow (w.drewN k) os):=
 ⟨rfl,rfl,rfl,by simp[grow],fun b hb=>by
  have:(grow (w.drewN k) os).heap=w.heap++os:=rfl;rw[this,Array.getElem?_append_left hb]⟩
theorem aK (w:World)(n:Int)(hT:Tabs w)(hn:I64 n):Calls Tryd.prog 21 #[.int .i64 n] w fun e w'=>e= .returned (.string ⟨(af n).toArray⟩)/\Below w.heap.size w w':=by
 have hc:=hd0 (Tryd.strconv_Itoa n hn.1 hn.2 w hT.tab);clear hn;go_enter Tryd.func21,Tryd.ntmps21
 go_wp2_with fail
 refine hc.out.mono ?_;rintro e w' ⟨rfl,k,os,rfl⟩;go_wp2;go_ret
 exact⟨rfl,below_grow w k os⟩
theorem Dh (l:List B)(n:Int)(h:n<1):pick l n=[63]:=by rw[pick,if_pos h]
theorem DN (l:List B)(n:Int)(h:(l.length:Int)<n):pick l n=[63]:=by
 rw[pick];split
 ·rfl
 rw[ag2 (by omega)];rfl
theorem Dq (l:List B)(n:Int)(h1:1<=n)(h2:n<=l.length):∃s,l[(n - 1).toNat]? =some s/\pick l n=s:=by
 rw[pick,if_neg (by omega)];have h:(n - 1).toNat<l.length:=by omega
 exact⟨l[(n - 1).toNat],agH h,by rw[agH h];rfl⟩
theorem FH (w:World)(n:Int)(hT:Tabs w):Calls Tryd.prog 13 #[.int .i64 n] w fun e w'=>e= .returned (.string ⟨(jG n).toArray⟩)/\w=w':=by
 by_cases h1:n<1
 ·have hp:=hd0 (Dh opNames n h1);go_enter Tryd.func13,Tryd.ntmps13
  go_wp2;go_ret
  exact⟨by rw[jG,hp.out];rfl,rfl⟩
 by_cases h2:39<n
 ·have hp:=hd0 (DN opNames n (by show((39:Nat):Int)<n;omega));go_enter Tryd.func13,Tryd.ntmps13
  go_wp2;go_ret
  exact⟨by rw[jG,hp.out];rfl,rfl⟩
 obtain⟨s,hs,hp0⟩:=Dq opNames n (by omega) (by simp only[opNames,aV,ln];omega);have hp:=hd0 hp0;clear hp0;have hc:w.cell? ⟨0,n.toNat - 1,none⟩=some (.string ⟨s.toArray⟩):=by rw[show n.toNat - 1=(n - 1).toNat by omega,hT.ops.cell];exact strs_get hs
 clear hs;go_enter Tryd.func13,Tryd.ntmps13
 go_wp2;go_ret
 exact⟨by rw[jG,hp.out];rfl,rfl⟩
theorem Fa (w:World)(n:Int)(hT:Tabs w):Calls Tryd.prog 47 #[.int .i64 n] w fun e w'=>e= .returned (.string ⟨(pick anchorNames n).toArray⟩)/\w=w':=by
 by_cases h1:n<1
 ·have hp:=hd0 (Dh anchorNames n h1);go_enter Tryd.func47,Tryd.ntmps47
  go_wp2;go_ret
  exact⟨by rw[hp.out];rfl,rfl⟩
 by_cases h2:4<n
 ·have hp:=hd0 (DN anchorNames n (by show((4:Nat):Int)<n;omega));go_enter Tryd.func47,Tryd.ntmps47
  go_wp2;go_ret
  exact⟨by rw[hp.out];rfl,rfl⟩
 obtain⟨s,hs,hp0⟩:=Dq anchorNames n (by omega) (by simp only[anchorNames,aV,ln];omega);have hp:=hd0 hp0;clear hp0;have hc:w.cell? ⟨2,n.toNat - 1,none⟩=some (.string ⟨s.toArray⟩):=by rw[show n.toNat - 1=(n - 1).toNat by omega,hT.anch.cell];exact strs_get hs
 clear hs;go_enter Tryd.func47,Tryd.ntmps47
 go_wp2;go_ret
 exact⟨by rw[hp.out];rfl,rfl⟩
theorem vU (w:World)(n:Int)(hT:Tabs w):Calls Tryd.prog 48 #[.int .i64 n] w fun e w'=>e= .returned (.string ⟨(pick bF n).toArray⟩)/\w=w':=by
 by_cases h1:n<1
 ·have hp:=hd0 (Dh bF n h1);go_enter Tryd.func48,Tryd.ntmps48
  go_wp2;go_ret
  exact⟨by rw[hp.out];rfl,rfl⟩
 by_cases h2:8<n
 ·have hp:=hd0 (DN bF n (by show((8:Nat):Int)<n;omega));go_enter Tryd.func48,Tryd.ntmps48
  go_wp2;go_ret
  exact⟨by rw[hp.out];rfl,rfl⟩
 obtain⟨s,hs,hp0⟩:=Dq bF n (by omega) (by simp only[bF,aV,ln];omega);have hp:=hd0 hp0;clear hp0;have hc:w.cell? ⟨3,n.toNat - 1,none⟩=some (.string ⟨s.toArray⟩):=by rw[show n.toNat - 1=(n - 1).toNat by omega,hT.kinds.cell];exact strs_get hs
 clear hs;go_enter Tryd.func48,Tryd.ntmps48
 go_wp2;go_ret
 exact⟨by rw[hp.out];rfl,rfl⟩
theorem Lt (ws:List B)(k:Nat)(s:B)(h:ws[k]? =some s):dN (ws.take (k+1))=dN (ws.take k)++32::s:=by obtain⟨hk,hg⟩:=agG.1 h;rw[agT hk,hg];simp[dN]
theorem Hw (ws:List B)(k:Nat):(dN (ws.take k)).length<=(dN ws).length:=by
 conv=>rhs;rw[<-ag9 k ws]
 simp only[dN,aha,la];omega
theorem yj (w:World)(Bd g:Nat)(fc:Nat->Value)(txt first:B)(A:Option Addr)(c:Nat)(ws:List B)(h:Pr w Bd g fc txt)(hA:Sl afJ 1 w (FT w) A ws)(hlen:txt.length+(ax first ws).length<=1000000000000)(hws:ws.length<=1000000000000):
  Calls Tryd.prog 20 #[.pointer (some ⟨g,0,none⟩),.string ⟨first.toArray⟩,.slice A ws.length c] w fun e w'=>e= .returned (.tuple #[])/\Pr w' Bd g fc (txt++ax first ws)/\KP w w'/\Below Bd w w':=by
 have hl2:txt.length+first.length+(dN ws).length+1<=1000000000000:=by simp only[ax,la,aV,ln] at hlen;omega
 clear hlen;go_enter Tryd.func20,Tryd.ntmps20
 go_wp2_with (go_at_call 42;refine(uA _ Bd g fc txt first h (by omega)).mono ?_;rintro e w1 ⟨rfl,hp1,hk1,hb1⟩)
 go_loopw [15] (fun i wr=>∃k:Nat,k<=ws.length/\i= .int .i64 k/\Pr wr Bd g fc (txt++first++dN (ws.take k))/\KP w wr/\Below Bd w wr) (fun i _=>ws.length - (intOf i).toNat)
 case atStart=>exact⟨0,nz _,rfl,by simpa [dN] using hp1,hk1,hb1⟩
 case round=>
  obtain⟨k,hk,rfl,hp,hkp,hbl⟩:=hrel;have hm:=Hw ws k;by_cases hlt:k<ws.length
  ·obtain⟨b,o,s,rfl,-,hs,q1⟩:=(hkp.sl afJ.ok hA).str hlt
   have hsn:=Lt ws k s hs.out;have hm2:=Hw ws (k+1);rw[hsn] at hm2;simp only[la,aV] at hm2;have Hs:=hd0 hsn;clear hsn hs;go_wp2_with (first
    |(go_at_call 43;refine(wV _ Bd g fc _ 32 hp (by simp only[la];omega)).mono ?_;rintro e w2 ⟨rfl,hp2,hk2,hb2⟩)
    |(go_at_call 42;refine(uA _ Bd g fc _ s hp2 (by simp only[la,aV,ln];omega)).mono ?_;rintro e w3 ⟨rfl,hp3,hk3,hb3⟩))
   go_roundw
   case rel=>exact⟨k+1,by omega,by simp,by rw[Hs.out];simpa using hp3,(hkp.trans hk2).trans hk3,(hbl.trans hb2).trans hb3⟩
   case measure=>simp[intOf];omega
  obtain rfl:k=ws.length:=by omega
  go_wp2_with (go_at_call 43;refine(wV _ Bd g fc _ 10 hp (by simp only[la];omega)).mono ?_;rintro e w2 ⟨rfl,hp2,hk2,hb2⟩)
  go_end0
  refine⟨rfl,?_,hkp.trans hk2,hbl.trans hb2⟩;simpa [ax] using hp2
end
section
open Go.RowKit
abbrev kw:TypeId:=118
abbrev aF:TypeId:=3
def mkV (A:Option Addr)(n c a:Nat)(fs:Nat->Value)(lp:Int):Array Value:= #[.slice A n c,.int .i64 a,fs 0,fs 1,fs 2,fs 3,fs 4,fs 5,fs 6,fs 7,fs 8,.int .i64 lp]
def Mk (w:World)(m:Nat)(fs:Nat->Value)(lp:Int):Prop:=∃A n c a zs,Bk w m kw (mkV A n c a fs lp)/\a<=n/\n<=1000000000/\Rd w m A n 1 (aN zs)/\∀z∈zs,I64 z
abbrev Mv (m:Nat)(w w':World):Prop:=w.grownBy w' (some m)
theorem Le {a b:World}{m Bd:Nat}(h:a.grownBy b (some m))(hm:Bd<=m)(hB:Bd<=a.heap.size):Below Bd a b:=⟨h.os,h.tape,h.output,h.size,fun i hi=>h.block i (by omega) (fun e=>by injection e with e;omega)⟩
theorem Mk.lt {w:World}{m:Nat}{fs:Nat->Value}{lp:Int}(h:Mk w m fs lp):m<w.heap.size:=by obtain⟨A,n,c,a,zs,h1,-⟩:=h;exact h1.lt
theorem Mk.cells {w:World}{m:Nat}{fs:Nat->Value}{lp:Int}(h:Mk w m fs lp):(∀i,i<9->w.cell? ⟨m,i+2,none⟩=some (fs i))/\w.cell? ⟨m,11,none⟩=some (.int .i64 lp):=by
 obtain⟨A,n,c,a,zs,h1,-⟩:=h;refine⟨fun i hi=> ?_,h1.cell 11⟩;rw[h1.cell (i+2)];have:i=0\/i=1\/i=2\/i=3\/i=4\/i=5\/i=6\/i=7\/i=8:=by omega
 rcases this with rfl|rfl|rfl|rfl|rfl|rfl|rfl|rfl|rfl<;>rfl
theorem Mk.frozen {w:World}{m:Nat}{fs:Nat->Value}{lp:Int}(h:Mk w m fs lp)(i:Nat):w.frozen? ⟨m,i,none⟩=false:=by obtain⟨A,n,c,a,zs,h1,-⟩:=h;exact h1.frozen i
theorem Mk.grown {w w':World}{m:Nat}{fs:Nat->Value}{lp:Int}(h:Mk w m fs lp){row:Option Nat}(hg:w.grownBy w' row)(hr:∀g,row=some g->m<g):Mk w' m fs lp:=by have hm:=h.lt;obtain⟨A,n,c,a,zs,h1,h2,h3,h4,h5⟩:=h;exact⟨A,n,c,a,zs,(hg.block m hm (fun e=>by have:=hr m e.symm;omega)).trans h1,h2,h3,h4.grown hg (by omega) (fun g e=>by have:=hr g e;omega),h5⟩
theorem Mk.below {w w':World}{m:Nat}{fs:Nat->Value}{lp:Int}(h:Mk w m fs lp)(hb:Below w.heap.size w w'):Mk w' m fs lp:=h.grown (row:=none) (dm hb none) (fun g e=>by cases e)
theorem Mk.set {w:World}{m:Nat}{fs fs':Nat->Value}{lp lp':Int}(h:Mk w m fs lp)(j:Nat)(u:Value)(hj:∀A n c a,(mkV A n c a fs lp).setIfInBounds j u=mkV A n c a fs' lp'):Mk (w.setCell ⟨m,j,none⟩ u) m fs' lp':=by obtain⟨A,n,c,a,zs,h1,h2,h3,h4,h5⟩:=h;exact⟨A,n,c,a,zs,by have:=h1.set j u;rwa [hj] at this,h2,h3,h4.setCell (by simp) u,h5⟩
theorem Om {w w':World}{base:Nat}{e:TypeId}{size:Nat}{v:Value}{n:Nat}{xs:List Value}(h:w.ownsRow base e size v n xs){m:Nat}(hg:w.grownBy w' (some m))(hm:m<base):w'.ownsRow base e size v n xs:=
 h.kept (row:=some m) hg (by
  cases hb:v.ownBlock with
  |none=>exact .inl rfl
  |some g=>exact .inr (fun e=>by injection e with e;have:=(h.lt g hb).1;omega))
theorem qM (w:World)(base:Nat)(e:TypeId)(size n:Nat)(cur:Array Value)(hb:base<=w.heap.size)(hn:cur.size=n*size)(hm:n<=1000000):(w.alloc (.cells cur e)).ownsRow base e size (.slice (some ⟨w.heap.size,0,none⟩) n n) n cur.toList:=⟨by simpa using hn,.inr ⟨w.heap.size,n,cur,rfl,hb,heap_alloc_new w _,ai _,by unfold maxLen;omega,hn,by rw[agW];simpa using Nat.le_of_eq hn⟩⟩
def NI (base:Nat)(w:World):Bs:=fun b=>base<=b/\∃cs,Bk w b aF cs
def Nw (base:Nat)(w:World):Bs:=fun b=>base<=b/\∃cs t,Bk w b t cs/\BR t=true
theorem NI.base {base base':Nat}{w:World}(hb:base'<=base):∀b,NI base w b->NI base' w b:=fun b ⟨h,k⟩=>⟨by omega,k⟩
theorem Nw.base {base base':Nat}{w:World}(hb:base'<=base):∀b,Nw base w b->Nw base' w b:=fun b ⟨h,k⟩=>⟨by omega,k⟩
theorem NI.old {base:Nat}{w w':World}{row:Option Nat}(hg:w.grownBy w' row)(hr:∀g,row=some g->g<base):Same (NI base w) w w'/\∀b,NI base w b->NI base w' b:=by
 have key:∀b,NI base w b->w'.heap[b]? =w.heap[b]? :=fun b ⟨h,cs,k⟩=>hg.block b k.lt (fun e=>by have:=hr b e.symm;omega)
 exact⟨key,fun b hb=>by obtain⟨h,cs,k⟩:=hb;exact⟨h,cs,(key b ⟨h,cs,k⟩).trans k⟩⟩
theorem Nw.old {base:Nat}{w w':World}{row:Option Nat}(hg:w.grownBy w' row)(hr:∀g,row=some g->g<base):Same (Nw base w) w w'/\∀b,Nw base w b->Nw base w' b:=by
 have key:∀b,Nw base w b->w'.heap[b]? =w.heap[b]? :=fun b ⟨h,cs,t,k,_⟩=>hg.block b k.lt (fun e=>by have:=hr b e.symm;omega)
 exact⟨key,fun b hb=>by obtain⟨h,cs,t,k,d⟩:=hb;exact⟨h,cs,t,(key b ⟨h,cs,t,k,d⟩).trans k,d⟩⟩
theorem NI.row {base:Nat}{w w':World}{v:Value}{bs:Nat}{e:TypeId}{size n:Nat}{xs:List Value}(ho:w.ownsRow bs e size v n xs)(he:e≠aF)(hg:w.grownBy w' v.ownBlock):Same (NI base w) w w'/\∀b,NI base w b->NI base w' b:=by
 have key:∀b,NI base w b->w'.heap[b]? =w.heap[b]? :=fun b ⟨h,cs,k⟩=>hg.block b k.lt (fun e'=>by
  obtain⟨cur,hb⟩:=gW ho b e'.symm;exact he (jM hb k).1)
 exact⟨key,fun b hb=>by obtain⟨h,cs,k⟩:=hb;exact⟨h,cs,(key b ⟨h,cs,k⟩).trans k⟩⟩
theorem Sl.moved {α:Type}{R:Rel α}(ok:R.Ok){size:Nat}{w w':World}{S S':Bs}{A:Option Addr}{xs:List α}(h:Sl R size w S A xs)(k:Same S w w'/\∀b,S b->S' b):Sl R size w' S' A xs:=(h.keep ok k.1).mono ok k.2
theorem Fl.moved {α:Type}{R:Rel α}(ok:R.Ok){size:Nat}{w w':World}{S S':Bs}{cs:List Value}{xs:List α}(h:Fl R size w S cs xs)(k:Same S w w'/\∀b,S b->S' b):Fl R size w' S' cs xs:=(h.keep ok k.1).mono ok k.2
theorem Sl.rdM {α:Type}{R:Rel α}{size:Nat}{w:World}{S:Bs}{A:Option Addr}{xs:List α}(h:Sl R size w S A xs)(hS:∀b,S b->b<w.heap.size):∃cells,Fl R size w S cells xs/\Rd w w.heap.size A xs.length size cells:=by obtain⟨cells,h1,h2⟩:=h;refine⟨cells,h1,h1.1,fun h0=> ?_⟩;obtain⟨b,o,e,hb,hc⟩:=h2 h0;exact⟨b,o,e,hS b hb,hc⟩
theorem NI.lt {base:Nat}{w:World}:∀b,NI base w b->b<w.heap.size:=fun b ⟨_,_,k⟩=>k.lt
theorem Nw.lt {base:Nat}{w:World}:∀b,Nw base w b->b<w.heap.size:=fun b ⟨_,_,_,k,_⟩=>k.lt
theorem iF (w:World)(S:Bs)(l:List Int)(h:∀n∈l,I64 n):Fl aeQ 1 w S (aN l) l:=
 ⟨by simp[aN],fun k x hx=>⟨[.int .i64 x],⟨rfl,h x (agM hx)⟩,rfl,fun j u hu=>by
  cases j with
  |zero=>simp at hu;subst hu;simp[aN,cI,hx]
  |succ j=>simp at hu⟩⟩
theorem oW {α:Type}{R:Rel α}{size:Nat}(w:World)(S:Bs)(f:α->List Value)(l:List α)(hs:∀x∈l,(f x).length=size)(hR:∀x∈l,R w S (f x) x):Fl R size w S (l.flatMap f) l:=by
 induction l with
 |nil=>exact Fl.nil
 |cons a r ih=>rw[agV];exact(Fl.one (hR a (by simp)) (hs a (by simp))).append (ih (fun x hx=>hs x (by simp[hx])) (fun x hx=>hR x (by simp[hx])))
def Mc (i:Ins):List Value:=[.int .i64 i.op,.int .i64 i.a]
def jb (p:List Ins):List Value:=p.flatMap Mc
theorem Dw (w:World)(S:Bs)(p:List Ins)(h:∀i∈p,I64 i.op/\I64 i.a):Fl ae9 2 w S (jb p) p:=oW w S Mc p (fun _ _=>rfl) (fun x hx=>⟨rfl,h x hx⟩)
theorem Ol (a b:List Ins):jb (a++b)=jb a++jb b:=by simp[jb]
theorem Pq (p:List Ins):∀u∈jb p,u.oneCell'=true:=by intro u hu;simp only[jb,ahe,Mc,agQ,ahb,or_false] at hu;obtain⟨p,_,rfl|rfl⟩:=hu<;>rfl
theorem PV (p:List Ins):(jb p).length=p.length*2:=by
 induction p with
 |nil=>rfl
 |cons a r ih=>simp only[jb,agV,la,aV,Mc,ln] at ih ⊢;omega
def Ye (p:Pt):List Value:=[.int .i64 p.x,.int .i64 p.y,.bool p.on]
def wH (p:List Pt):List Value:=p.flatMap Ye
theorem WM (w:World)(S:Bs)(p:List Pt)(h:∀i∈p,I64 i.x/\I64 i.y):Fl PtR 3 w S (wH p) p:=oW w S Ye p (fun _ _=>rfl) (fun x hx=>⟨rfl,h x hx⟩)
theorem Rq (a b:List Pt):wH (a++b)=wH a++wH b:=by simp[wH]
structure afo (gl:Gl)(gs:List aeS):Prop where
 at':∀(i:Nat) (g:aeS),gs[i]? =some g->gl.lookup g.name=some i
 names:∀g∈gs,nameB g.name=true
theorem uT {gl:Gl}{gs:List aeS}(h:afo gl gs){n:Int}(hn:In gs.length n):gl.lookup (bM gs n)=some n.toNat/\nameB (bM gs n)=true:=by
 obtain⟨h1,h2⟩:=hn;have hlt:n.toNat<gs.length:=by omega
 have e:gs[n.toNat]? =some gs[n.toNat]:=agH hlt;have e2:bM gs n=gs[n.toNat].name:=by unfold bM;rw[if_neg (by omega),e]
 rw[e2];exact⟨h.at' _ _ e,h.names _ (List.getElem_mem hlt)⟩
theorem wO {gl:Gl}{gs:List aeS}(h:afo gl gs){n:Int}(hn:In gs.length n)(e:Int):J4 gl e (bM gs n)=e/\Bf gl (bM gs n)=n:=by obtain⟨h1,-⟩:=uT h hn;obtain⟨h3,h4⟩:=hn;rw[J4,Bf,h1];refine⟨by simp,?_⟩;simp;omega
theorem Ve {gl:Gl}{gs:List aeS}(h:afo gl gs)(l:List Int)(hl:∀n∈l,In gs.length n)(e:Int):KN gl e (l.map (bM gs))=e/\(l.map (bM gs)).map (Bf gl)=l:=by
 induction l generalizing e with
 |nil=>exact⟨rfl,rfl⟩
 |cons n r ih=>
  obtain⟨a1,a2⟩:=wO h (hl n (by simp)) e;obtain⟨b1,b2⟩:=ih (fun m hm=>hl m (by simp[hm])) e;refine⟨?_,?_⟩
  ·have:KN gl e ((n::r).map (bM gs))=KN gl (J4 gl e (bM gs n)) (r.map (bM gs)):=rfl;rw[this,a1,b1]
  rw[agO,agO,a2,b2]
theorem Jk {gl:Gl}{cls:List (B×List Int)}{s:B}{n:Nat}(hs:nameB s=true)(hl:gl.lookup s=some n):IV gl cls s= .ok [(n:Int)]:=by
 unfold IV;split
 ·exact absurd rfl ((PL hs 64 (by simp)).2.2.2.2.1)
 rw[hl]
theorem Jh {gl:Gl}{gs:List aeS}(h:afo gl gs)(cls:List (B×List Int))(s:List Int)(hs:∀n∈s,In gs.length n)(acc:List Int)(hl:acc.length+s.length<=1000):yE gl cls acc (s.map (bM gs))= .ok (acc++s):=by
 induction s generalizing acc with
 |nil=>simp[yE]
 |cons n r ih=>
  obtain⟨h1,h2⟩:=uT h (hs n (by simp));have h3:=(hs n (by simp)).1;rw[agO,yE,Jk h2 h1];have e:((n.toNat:Nat):Int)=n:=by omega
  simp only[e];rw[if_neg (by simp only[la,aV,ln] at hl ⊢;omega),ih (fun m hm=>hs m (by simp[hm])) _ (by simp only[la,aV,ln] at hl ⊢;omega)];simp
theorem rV {gl:Gl}{gs:List aeS}(h:afo gl gs)(cls:List (B×List Int))(l:List (List Int))(hl:∀s∈l,(∀n∈s,In gs.length n)/\s.length<=1000):uk gl cls (l.map (fun s=>s.map (bM gs)))= .ok l:=by
 induction l with
 |nil=>rfl
 |cons s r ih=>obtain⟨h1,h2⟩:=hl s (by simp);rw[agO,uk,Jh h cls s h1 [] (by simpa using h2),ih (fun x hx=>hl x (by simp[hx]))];simp
theorem Tm (names:List B)(hn:∀w∈names,w≠[91]/\w≠[93])(row:List B)(told:List (List B))(rest:List B):fK true row told (names++[93]::rest)=fK false [] (told++[row++names]) rest:=by
 induction names generalizing row with
 |nil=>simp[fK]
 |cons w r ih=>obtain⟨h1,h2⟩:=hn w (by simp);rw[agU,fK,if_neg h1,if_neg h2,if_pos rfl,ih (fun x hx=>hn x (by simp[hx]))];simp
theorem Cj {s:B}(h:nameB s=true):s≠[91]/\s≠[93]/\s≠[47]/\s≠[62]:=by refine⟨?_,?_,?_,?_⟩<;>(rintro rfl;revert h;decide)
theorem PK {gl:Gl}{gs:List aeS}(h:afo gl gs)(s:List Int)(hs:∀n∈s,In gs.length n)(told:List (List B))(rest:List B):fK false [] told (setW gs s++rest)=fK false [] (told++[s.map (bM gs)]) rest:=by
 have hb:∀n∈s,bM gs n≠[91]/\bM gs n≠[93]:=fun n hn=>by
  have:=Cj (uT h (hs n hn)).2;exact⟨this.1,this.2.1⟩
 by_cases h1:s.length=1
 ·match s,h1 with
  |[n],_=>obtain⟨b1,b2⟩:=hb n (by simp);show fK false [] told (bM gs n::rest)=_;rw[fK,if_neg b1,if_neg b2];simp
 have e:setW gs s=[91]::s.map (bM gs)++[[93]]:=by
  unfold setW;split
  ·simp at h1
  rfl
 rw[e];simp only[agU,agR,ahd];rw[fK,if_pos rfl];simp only[Bool.false_eq_true,if_false];rw[Tm _ (fun w hw=>by
  rw[ag7] at hw;obtain⟨n,hn,rfl⟩:=hw;exact hb n hn)]
 simp
theorem QW {gl:Gl}{gs:List aeS}(h:afo gl gs)(l:List (List Int))(hl:∀s∈l,∀n∈s,In gs.length n):uM (bi gs l)=some (l.map (fun s=>s.map (bM gs))):=by
 suffices key:∀told,fK false [] told (bi gs l)=some (told++l.map (fun s=>s.map (bM gs))) by simpa [uM] using key []
 induction l with
 |nil=>intro told;simp[bi,fK]
 |cons s r ih=>
  intro told;have e:bi gs (s::r)=setW gs s++bi gs r:=by simp[bi]
  rw[e,PK h s (hl s (by simp)),ih (fun x hx=>hl x (by simp[hx]))];simp
theorem uX {gl:Gl}{gs:List aeS}(h:afo gl gs)(l:List (List Int))(hl:∀s∈l,∀n∈s,In gs.length n):∀w∈bi gs l,w≠[47]/\w≠[62]/\bI w=true:=by
 intro w hw;simp only[bi,ahe] at hw;obtain⟨s,hs,hw⟩:=hw;have hn:∀n∈s,bM gs n≠[47]/\bM gs n≠[62]/\bI (bM gs n)=true:=fun n hn=>by
  have h1:=(uT h (hl s hs n hn)).2;have:=Cj h1;exact⟨this.2.2.1,this.2.2.2,mQ h1⟩
 have key:w∈[91]::s.map (bM gs)++[[93]]\/w∈s.map (bM gs):=by
  unfold setW at hw;split at hw
  ·exact .inr (by simpa using hw)
  exact .inl hw
 have:w=[91]\/w=[93]\/∃n∈s,bM gs n=w:=by
  rcases key with hk|hk
  ·simp only[agU,agQ,agJ,ag7,ahb,or_false] at hk;rcases hk with hk|⟨n,hn,e⟩|hk
   ·exact .inl hk
   ·exact .inr (.inr ⟨n,hn,e⟩)
   exact .inr (.inl hk)
  rw[ag7] at hk;exact .inr (.inr hk)
 rcases this with rfl|rfl|⟨n,hns,rfl⟩
 ·decide
 ·decide
 exact hn n hns
theorem sH (ws:List B)(hw:∀w∈ws,w≠[47]/\w≠[62])(n:Nat)(cur:List B)(told:List (List B))(rest:List B):kK n cur told (ws++rest)=kK n (cur++ws) told rest:=by
 induction ws generalizing cur with
 |nil=>simp
 |cons w r ih=>rw[agU,kK,if_pos (hw w (by simp)),ih (fun x hx=>hw x (by simp[hx]))];simp
theorem SL (a b c d:List B)(ha:∀w∈a,w≠[47]/\w≠[62])(hb:∀w∈b,w≠[47]/\w≠[62])(hc:∀w∈c,w≠[47]/\w≠[62])(hd:∀w∈d,w≠[47]/\w≠[62]):
  AP (a++[47]::b++[47]::c++[62]::d)=some [a,b,c,d]:=by
 have e:a++[47]::b++[47]::c++[62]::d=a++([47]::(b++([47]::(c++([62]::(d++[])))))):=by simp
 rw[e,AP,sH a ha,kK,if_neg (by simp),if_pos (by simp),sH b hb,kK,if_neg (by simp),if_pos (by simp),sH c hc,kK,if_neg (by simp),if_pos (by simp),sH d hd,kK];simp
theorem NE (n:Int)(s:List Int)(h:∀x∈s,n<x):Gq n s=n::s:=by
 cases s with
 |nil=>rfl
 |cons x r=>rw[Gq,if_pos (h x (by simp))]
theorem Iu (s:List Int)(h:s.Pairwise (· < ·)):setOf s=s:=by
 induction s with
 |nil=>rfl
 |cons n r ih=>obtain⟨h1,h2⟩:=List.pairwise_cons.1 h;have e:setOf (n::r)=Gq n (setOf r):=rfl;rw[e,ih h2,NE n r h1]
theorem Kv {n:Nat}{s:List Int}(h:OkS n s):s.length<=n:=by
 obtain⟨h1,h2⟩:=h
 suffices key:∀(s:List Int) (lo:Int),s.Pairwise (· < ·)->(∀x∈s,lo<=x/\x<n)->(s.length:Int)<=max 0 (n - lo) by have:=key s 0 h1 (fun x hx=>h2 x hx);omega
 intro s;induction s with
 |nil=>intro lo _ _;simp;omega
 |cons x r ih=>intro lo hp hr;obtain⟨h3,h4⟩:=List.pairwise_cons.1 hp;have h5:=hr x (by simp);have:=ih (x+1) h4 (fun y hy=>⟨by have:=h3 y hy;omega,(hr y (by simp[hy])).2⟩);simp only[aV];omega
theorem zB {s:List Int}(h:s.Pairwise (· < ·)):s.Nodup:=h.imp (fun hab e=>by omega)
theorem UZ (s out:List Int)(hn:s.Nodup)(hl:out.length=s.length):s.map (fun g=>out.getD (s.idxOf g) 0)=out:=by
 apply List.ext_getElem (by simp[hl]);intro i h1 h2;rw[List.getElem_map];have h3:i<s.length:=by simpa using h1
 rw[List.Nodup.idxOf_getElem hn i h3];simp[List.getD,h2]
theorem xy (s out:List Int)(hs:s.Pairwise (· < ·))(hl:out.length=s.length):DD s out= .ok out:=by rw[DD,if_neg (by simpa using zB hs),if_neg (by simpa using hl),Iu s hs,UZ s out (zB hs) hl]
theorem DU (c:Call)(h:N9 c.at'/\N9 c.lookup)(e:Int):FC e (af c.at'++58::af c.lookup)=e/\Fq (af c.at'++58::af c.lookup)=c/\(af c.at'++58::af c.lookup).count 58=1/\bI (af c.at'++58::af c.lookup)=true:=by
 obtain⟨h1,h2⟩:=h;have n1:∀d∈af c.at',d≠58:=fun d hd=>(gI (lZ _ d hd)).2.1
 have n2:∀d∈af c.lookup,d≠58:=fun d hd=>(gI (lZ _ d hd)).2.1
 obtain⟨c1,c2⟩:=IX (b:=af c.lookup) n1;refine⟨?_,?_,?_,?_⟩
 ·rw[FC,c1,c2,fA _ h1,fA _ h2]
 ·rw[Fq,c1,c2,(dI _ h1).2,(dI _ h2).2]
 ·rw[List.count_append,List.count_cons,count_none n1,count_none n2];simp
 simp only[bI,ag1,Bool.not_eq_true',List.isEmpty_eq_false_iff,ahc,agJ,agQ];refine⟨by simp,fun d hd=> ?_⟩;rcases hd with hd|rfl|hd
 ·exact(gI (lZ _ d hd)).1
 ·decide
 exact(gI (lZ _ d hd)).1
theorem MV (l:List Call)(h:∀c∈l,N9 c.at'/\N9 c.lookup)(e:Int):(l.map (fun c=>af c.at'++58::af c.lookup)).foldl FC e=e/\(l.map (fun c=>af c.at'++58::af c.lookup)).map Fq=l/\
  C9 (l.map (fun c=>af c.at'++58::af c.lookup))=true/\∀w∈l.map (fun c=>af c.at'++58::af c.lookup),bI w=true:=by
 induction l generalizing e with
 |nil=>exact⟨rfl,rfl,rfl,by simp⟩
 |cons c r ih=>
  obtain⟨a1,a2,a3,a4⟩:=DU c (h c (by simp)) e;obtain⟨b1,b2,b3,b4⟩:=ih (fun d hd=>h d (by simp[hd])) e;refine⟨?_,?_,?_,?_⟩
  ·rw[agO,ag4,a1,b1]
  ·rw[agO,agO,a2,b2]
  ·unfold C9 at b3 ⊢;rw[agO,List.all_cons,b3,a3];rfl
  intro w hw;rw[agO,agQ] at hw;rcases hw with rfl|hw
  ·exact a4
  exact b4 w hw
theorem aaf (w:World)(b:UInt8):(convert 92 9 (.slice (some ⟨w.heap.size,0,none⟩) 1 1)).run Tryd.prog (w.alloc (.cells #[.int .u8 b.toNat] 5))= .ok (.string ⟨#[b]⟩) (w.alloc (.cells #[.int .u8 b.toNat] 5)):=
 run_convert_bytes_back (w.alloc (.cells #[.int .u8 b.toNat] 5)) 92 9 5 ⟨w.heap.size,0,none⟩ 1 [b] Tryd.underlying92 Tryd.underlying5 Tryd.underlying9 (fun j hj=>by
  obtain rfl:j=0:=by simpa using hj
  rw[addr_add];exact(Bk.new w 5 #[.int .u8 b.toNat]).cell 0)
theorem oQ (a b:B):(ByteArray.mk a.toArray)++⟨b.toArray⟩=⟨(a++b).toArray⟩:=by apply ByteArray.ext;rw[ByteArray.data_append];apply Array.ext';simp
def kY (n:Nat):UInt8:=UInt8.ofNat (48+n % 10)
theorem Vs (n:Nat):(kY n).toNat=48+n % 10:=by rw[kY,UInt8.toNat_ofNat'];omega
def jh (u:Nat):B:=if _h:u<10 then [kY u] else jh (u / 10)++[kY u]
termination_by u
decreasing_by omega
theorem Fg (w:World)(n:Int)(u:Nat)(h:n=48+(u:Int) % 10):(convert 92 9 (.slice (some ⟨w.heap.size,0,none⟩) 1 1)).run Tryd.prog (w.alloc (.cells #[.int .u8 n] 5))= .ok (.string ⟨#[kY u]⟩) (w.alloc (.cells #[.int .u8 n] 5)):=by
 have:=aaf w (kY u);rw[Vs] at this;rw[h];have e:(48+(u:Int) % 10)=((48+u % 10:Nat):Int):=by omega
 rw[e];exact this
def mP (q:Nat):B:=if q=0 then [] else jh q
theorem RZ (q:Nat)(h:0<q):mP q=mP (q / 10)++[kY q]:=by
 rw[mP,if_neg (by omega),jh];split
 ·rw[mP,if_pos (by omega)];rfl
 rw[mP,if_neg (by omega)]
theorem Lj (U:Nat):jh U=mP (U / 10)++[kY U]:=by
 rw[jh];split
 ·rw[mP,if_pos (by omega)];rfl
 rw[mP,if_neg (by omega)]
theorem RF (k:Nat):∀u,u<10 ^ (k+1)->(jh u).length<=k+1:=by
 induction k with
 |zero=>intro u hu;rw[jh,dif_pos (by simpa using hu)];simp
 |succ k ih=>
  intro u hu;rw[jh];split
  ·simp
  have:=ih (u / 10) (by rw[QE] at hu;omega);rw[la];simp;omega
theorem Hu (u:Nat):jh u=Lib.decDigits u:=by
 induction u using Nat.strongRecOn with
 |_ u ih=>
  rw[jh,Lib.decDigits];split
  ·rename_i h;rw[kY,Nat.mod_eq_of_lt h]
  rw[ih (u / 10) (by omega)];rfl
def ah (n:Int):B:=af n++[32]
def oN (b:Bool):B:=if b then [49,32] else [48,32]
def rowB (l:List Int):B:=ah l.length++l.flatMap ah
def jd (l:List (List Int)):B:=ah l.length++l.flatMap rowB
def lF (i:Ins):B:=ah i.op++ah i.a
def dO (l:List Ins):B:=ah l.length++l.flatMap lF
def lN (s:B):B:=ah s.length++(s++[32])
def lU (p:Pt):B:=ah p.x++(ah p.y++oN p.on)
def Qv (l:List Pt):B:=ah l.length++l.flatMap lU
def fQ (p:Part):B:=ah p.aeT++(ah p.x++ah p.y)
def IA (l:List Part):B:=ah l.length++l.flatMap fQ
def fU (a:ae5):B:=ah a.kind++(ah a.cls++(ah a.x++ah a.y))
def I7 (l:List ae5):B:=ah l.length++l.flatMap fU
def ji (d:Delta):B:=ah d.region++(ah d.point++(ah d.x++ah d.y))
def Nc (l:List Delta):B:=ah l.length++l.flatMap ji
def dD (g:aeS):B:=lN g.name++(ah g.advance++(oN g.mark++(Qv g.points++(rowB g.ends++(IA g.parts++(I7 g.anchors++(Nc g.deltas++dO g.hint)))))))
def Cm (l:List aeS):B:=ah l.length++l.flatMap dD
def jk (c:Chr):B:=ah c.rune++ah c.aeT
def Na (l:List Chr):B:=ah l.length++l.flatMap jk
def fZ (c:Call):B:=ah c.at'++ah c.lookup
def Bo (l:List Call):B:=ah l.length++l.flatMap fZ
def fG (r:ae4):B:=jd r.back++(jd r.in'++(jd r.ahead++(rowB r.out++(Bo r.calls++ah r.x))))
def IC (l:List ae4):B:=ah l.length++l.flatMap fG
def dZ (l:Lookup):B:=ah l.kind++(oN l.afh++IC l.rules)
def GM (l:List Lookup):B:=ah l.length++l.flatMap dZ
def gm (x:afd):B:=lN x.name++rowB x.aeO
def Iw (l:List afd):B:=ah l.length++l.flatMap gm
def fV (a:afp):B:=lN a.name++(ah a.min'++(ah a.afk++ah a.max'))
def MB (l:List afp):B:=ah l.length++l.flatMap fV
def iC (t:afm):B:=ah t.start++(ah t.peak++ah t.stop)
def xY (l:List afm):B:=ah l.length++l.flatMap iC
def jC (r:Region):B:=xY r.ae0
def ND (l:List Region):B:=ah l.length++l.flatMap jC
def Ir (l:List (List Ins)):B:=ah l.length++l.flatMap dO
def eF (f:Fnt):B:=ah f.unit++(Cm f.aeN++(Na f.chars++(GM f.aeO++(Iw f.features++(MB f.aeP++(ND f.regions++(Ir f.funcs++rowB f.cvt)))))))
def PF {α:Type}(c:α->B):Prop:=∀x y r s,c x++r=c y++s->x=y/\r=s
theorem Kt (n:Int):∀c∈af n,c≠32:=fun c hc e=>by
 have:=lZ n c hc;rw[e] at this
 revert this
 decide
theorem WT {m n:Int}(h:af m=af n):m=n:=by
 have key:∀a b:Nat,Lib.decDigits a=Lib.decDigits b->a=b:=fun a b e=>by rw[<-yh a,e,yh]
 unfold af Lib.itoa at h;split at h<;>split at h
 ·injection h with _ h
  have:=key _ _ h;omega
 ·obtain⟨c,r,h1,h2⟩:=vH n.toNat;rw[h1] at h;injection h with h _
  exact absurd h.symm h2
 ·obtain⟨c,r,h1,h2⟩:=vH m.toNat;rw[h1] at h;injection h with h _
  exact absurd h h2
 have:=key _ _ h;omega
theorem UV {a b r s:B}(ha:∀c∈a,c≠32)(hb:∀c∈b,c≠32)(h:a++32::r=b++32::s):a=b/\r=s:=by
 induction a generalizing b with
 |nil=>
  cases b with
  |nil=>simpa using h
  |cons y b=>simp only[ahd,agU,ahp] at h;exact absurd h.1.symm (hb y (by simp))
 |cons x a ih=>
  cases b with
  |nil=>simp only[ahd,agU,ahp] at h;exact absurd h.1 (ha x (by simp))
  |cons y b=>simp only[agU,ahp] at h;obtain⟨h1,h2⟩:=ih (fun c hc=>ha c (by simp[hc])) (fun c hc=>hb c (by simp[hc])) h.2;exact⟨by rw[h.1,h1],h2⟩
theorem cO:PF ah:=fun x y r s h=>by
 simp only[ah,agR,agU,ahd] at h;obtain⟨h1,h2⟩:=UV (Kt x) (Kt y) h;exact⟨WT h1,h2⟩
theorem I9:PF oN:=fun x y r s h=>by
 cases x<;>cases y<;>simp[oN] at h ⊢ <;>exact h
theorem eY {α:Type}{c:α->B}(hc:PF c):PF (fun l:List α=>ah l.length++l.flatMap c):=fun x y r s h=>by
 simp only[agR] at h;obtain⟨h1,h2⟩:=cO _ _ _ _ h;have hl:x.length=y.length:=by exact_mod_cast h1
 clear h h1;induction x generalizing y with
 |nil=>
  cases y with
  |nil=>exact⟨rfl,by simpa using h2⟩
  |cons b y=>simp at hl
 |cons a x ih=>
  cases y with
  |nil=>simp at hl
  |cons b y=>simp only[agV,agR] at h2;obtain⟨e1,e2⟩:=hc _ _ _ _ h2;obtain⟨e3,e4⟩:=ih y e2 (by simpa using hl);exact⟨by rw[e1,e3],e4⟩
theorem Cf:PF lN:=fun x y r s h=>by
 simp only[lN,agR] at h;obtain⟨h1,h2⟩:=cO _ _ _ _ h;have hl:x.length=y.length:=by exact_mod_cast h1
 obtain⟨e1,e2⟩:=List.append_inj h2 hl;simp only[agU,ahd,ahp,true_and] at e2;exact⟨e1,e2⟩
theorem xK:PF rowB:=eY cO
theorem CZ:PF jd:=eY xK
theorem Xu:PF lF:=fun x y r s h=>by
 simp only[lF,agR] at h;obtain⟨a1,h⟩:=cO _ _ _ _ h;obtain⟨a2,h⟩:=cO _ _ _ _ h;cases x;cases y;simp_all
theorem JB:PF dO:=eY Xu
theorem ZA:PF lU:=fun x y r s h=>by
 simp only[lU,agR] at h;obtain⟨a1,h⟩:=cO _ _ _ _ h;obtain⟨a2,h⟩:=cO _ _ _ _ h;obtain⟨a3,h⟩:=I9 _ _ _ _ h;cases x;cases y;simp_all
theorem Vw:PF fQ:=fun x y r s h=>by
 simp only[fQ,agR] at h;obtain⟨a1,h⟩:=cO _ _ _ _ h;obtain⟨a2,h⟩:=cO _ _ _ _ h;obtain⟨a3,h⟩:=cO _ _ _ _ h;cases x;cases y;simp_all
theorem Vx:PF fU:=fun x y r s h=>by
 simp only[fU,agR] at h;obtain⟨a1,h⟩:=cO _ _ _ _ h;obtain⟨a2,h⟩:=cO _ _ _ _ h;obtain⟨a3,h⟩:=cO _ _ _ _ h;obtain⟨a4,h⟩:=cO _ _ _ _ h;cases x;cases y;simp_all
theorem V8:PF ji:=fun x y r s h=>by
 simp only[ji,agR] at h;obtain⟨a1,h⟩:=cO _ _ _ _ h;obtain⟨a2,h⟩:=cO _ _ _ _ h;obtain⟨a3,h⟩:=cO _ _ _ _ h;obtain⟨a4,h⟩:=cO _ _ _ _ h;cases x;cases y;simp_all
theorem Q3:PF dD:=fun x y r s h=>by
 simp only[dD,agR] at h;obtain⟨a1,h⟩:=Cf _ _ _ _ h;obtain⟨a2,h⟩:=cO _ _ _ _ h;obtain⟨a3,h⟩:=I9 _ _ _ _ h;obtain⟨a4,h⟩:=eY ZA _ _ _ _ h;obtain⟨a5,h⟩:=xK _ _ _ _ h;obtain⟨a6,h⟩:=eY Vw _ _ _ _ h;obtain⟨a7,h⟩:=eY Vx _ _ _ _ h;obtain⟨a8,h⟩:=eY V8 _ _ _ _ h;obtain⟨a9,h⟩:=JB _ _ _ _ h;cases x;cases y;simp_all
theorem Zp:PF jk:=fun x y r s h=>by
 simp only[jk,agR] at h;obtain⟨a1,h⟩:=cO _ _ _ _ h;obtain⟨a2,h⟩:=cO _ _ _ _ h;cases x;cases y;simp_all
theorem UG:PF fZ:=fun x y r s h=>by
 simp only[fZ,agR] at h;obtain⟨a1,h⟩:=cO _ _ _ _ h;obtain⟨a2,h⟩:=cO _ _ _ _ h;cases x;cases y;simp_all
theorem VG:PF fG:=fun x y r s h=>by
 simp only[fG,agR] at h;obtain⟨a1,h⟩:=CZ _ _ _ _ h;obtain⟨a2,h⟩:=CZ _ _ _ _ h;obtain⟨a3,h⟩:=CZ _ _ _ _ h;obtain⟨a4,h⟩:=xK _ _ _ _ h;obtain⟨a5,h⟩:=eY UG _ _ _ _ h;obtain⟨a6,h⟩:=cO _ _ _ _ h;cases x;cases y;simp_all
theorem UF:PF dZ:=fun x y r s h=>by
 simp only[dZ,agR] at h;obtain⟨a1,h⟩:=cO _ _ _ _ h;obtain⟨a2,h⟩:=I9 _ _ _ _ h;obtain⟨a3,h⟩:=eY VG _ _ _ _ h;cases x;cases y;simp_all
theorem Vp:PF gm:=fun x y r s h=>by
 simp only[gm,agR] at h;obtain⟨a1,h⟩:=Cf _ _ _ _ h;obtain⟨a2,h⟩:=xK _ _ _ _ h;cases x;cases y;simp_all
theorem Va:PF fV:=fun x y r s h=>by
 simp only[fV,agR] at h;obtain⟨a1,h⟩:=Cf _ _ _ _ h;obtain⟨a2,h⟩:=cO _ _ _ _ h;obtain⟨a3,h⟩:=cO _ _ _ _ h;obtain⟨a4,h⟩:=cO _ _ _ _ h;cases x;cases y;simp_all
theorem U8:PF iC:=fun x y r s h=>by
 simp only[iC,agR] at h;obtain⟨a1,h⟩:=cO _ _ _ _ h;obtain⟨a2,h⟩:=cO _ _ _ _ h;obtain⟨a3,h⟩:=cO _ _ _ _ h;cases x;cases y;simp_all
theorem X6:PF jC:=fun x y r s h=>by
 obtain⟨a1,h⟩:=eY U8 _ _ _ _ h;cases x;cases y;simp_all
theorem Rh:PF eF:=fun x y r s h=>by
 simp only[eF,agR] at h;obtain⟨a1,h⟩:=cO _ _ _ _ h;obtain⟨a2,h⟩:=eY Q3 _ _ _ _ h;obtain⟨a3,h⟩:=eY Zp _ _ _ _ h;obtain⟨a4,h⟩:=eY UF _ _ _ _ h;obtain⟨a5,h⟩:=eY Vp _ _ _ _ h;obtain⟨a6,h⟩:=eY Va _ _ _ _ h;obtain⟨a7,h⟩:=eY X6 _ _ _ _ h;obtain⟨a8,h⟩:=eY JB _ _ _ _ h;obtain⟨a9,h⟩:=xK _ _ _ _ h;cases x;cases y;simp_all
theorem MQ {f g:Fnt}(h:eF f=eF g):f=g:=(Rh f g [] [] (by simp[h])).1
theorem OQ {w:World}{l:List (String×DataW Unit)}(h:laidMet Tryd.prog l w)
  (m1:("fleuron/unparse.opNames",Rows.laid_fleuron_unparse_opNames)∈l) (m2:("fleuron/unparse.anchorNames",Rows.laid_fleuron_unparse_anchorNames)∈l) (m3:("fleuron/unparse.lookupNames",Rows.laid_fleuron_unparse_lookupNames)∈l)
  (m4:("internal/strconv.uint64pow10",Rows.laid_internal_strconv_uint64pow10)∈l):Tabs w:=
 ⟨xH (nS h m1) (by kernel_rfl) (by kernel_rfl) Tryd.underlying109 Tryd.underlying9 (by kernel_rfl) (by kernel_rfl),
 xH (nS h m2) (by kernel_rfl) (by kernel_rfl) Tryd.underlying150 Tryd.underlying9 (by kernel_rfl) (by kernel_rfl),
 xH (nS h m3) (by kernel_rfl) (by kernel_rfl) Tryd.underlying151 Tryd.underlying9 (by kernel_rfl) (by kernel_rfl),
 PE (k:= .u64) (zs:=Lib.pow10Tab) (nS h m4) (by kernel_rfl) (by kernel_rfl) Tryd.underlying192 Tryd.underlying178 (by kernel_rfl) (by kernel_rfl)⟩
theorem Oc {w:World}{l:List (String×DataW Unit)}(h:laidMet Tryd.prog l w)(m1:("math/bits.deBruijn64tab",Rows.laid_math_bits_deBruijn64tab)∈l):nG≤w.heap.size:=
 Zc (nS h m1) (by kernel_rfl)
end
end Go.Proofs.YtkijckccfookeaaDoor
