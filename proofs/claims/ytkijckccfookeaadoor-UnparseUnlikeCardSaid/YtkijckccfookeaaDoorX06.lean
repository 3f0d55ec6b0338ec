/- Lemmas. -/
import Derived.Test.YtkijckccfookeaaDoorX05
set_option linter.unusedVariables false
set_option linter.unusedSimpArgs false
set_option maxRecDepth 100000
set_option maxHeartbeats 32000000
namespace Go.Proofs.YtkijckccfookeaaDoor
section
open Go.RowKit Go.Sort
theorem yt:(Tryd.prog.info? 9).map (fun i=>(i.zero,i.size,i.bytes))=some (some (.string ⟨#[]⟩),1,16):=by kernel_rfl
theorem uZ {w:World}{base size n:Nat}{e:TypeId}{v:Value}{xs:List Value}(h:w.ownsRow base e size v n xs):∃A c,v= .slice A n c:=by obtain⟨A,c,h,-⟩:=Rd.afr h;exact⟨A,c,h⟩
theorem Eo {ops:Array Oper}{rest:List Oper}{o:Oper}{a:Act}{Q:Exit->Act->World->Prop}(hgd:o.guard=none)(s x:Operand)
  (ho:o.op= .call {callee:= .builtin .append,args:= #[s,x],argTypes:= #[46,46]})
  (w1:World) (hsz:Nat) (hh:w1.heap.size=hsz) (base n c:Nat) (A:Option Addr) (xs:List Value) (u:B) (hs:a.eval s= .slice A n c) (hx:a.eval x= .slice (some ⟨hsz,0,none⟩) 1 1)
  (hown:w1.ownsRow base 9 1 (.slice A n c) n xs) (hn:n<=1000000000000) (hb:base<=w1.heap.size)
  (h:∀A' c' w',w'.ownsRow base 9 1 (.slice A' (n+1) c') (n+1) (xs++[.string ⟨u.toArray⟩])->w1.grownBy w' (Value.slice A n c).ownBlock->wpList Tryd.prog ops Q rest (a.put o.dst (.slice A' (n+1) c')) w'):
  wpList Tryd.prog ops Q (o::rest) a (w1.alloc (.cells #[.string ⟨u.toArray⟩] 9)):=by
 subst hh;obtain⟨i0,hi0,hz0,hz1,hz2⟩:=info_parts yt;refine jL _ hgd s x 46 ho base 9 i0 _ 1 16 Tryd.underlying46 hi0 hz0 hz1 hz2 rfl (by decide) (.slice A n c) n xs hs (hown.alloc _) (w1.heap.size+1) (some ⟨w1.heap.size,0,none⟩) 1 1 [.string ⟨u.toArray⟩] hx (Rd.newAt _ _ rfl #[.string ⟨u.toArray⟩] 9 1 1 rfl) (by simp[Value.oneCell']) (by simp only[maxLen];omega) (by omega) (by simp;omega) ?_;intro v' w' ho' hg _;obtain⟨A',c',rfl⟩:=uZ ho';refine h A' c' w' ho' ⟨hg.os,hg.tape,hg.output,nt (by simp) hg.size,fun i hi hne=> ?_⟩;exact(hg.block i (by simp;omega) hne).trans (Below.heap_alloc _ _ _ hi)
theorem bC {ops:Array Oper}{rest:List Oper}{o:Oper}{a:Act}{Q:Exit->Act->World->Prop}(hgd:o.guard=none)(s x:Operand)
  (ho:o.op= .call {callee:= .builtin .append,args:= #[s,x],argTypes:= #[46,46]})
  (w1:World) (base n c:Nat) (A:Option Addr) (xs:List Value) (u:B) (hs:a.eval s= .slice A n c) (hx:a.eval x= .slice (some ⟨w1.heap.size,0,none⟩) 1 1)
  (hown:w1.ownsRow base 9 1 (.slice A n c) n xs) (hn:n<=1000000000000) (hb:base<=w1.heap.size)
  (h:∀A' c' w',w'.ownsRow base 9 1 (.slice A' (n+1) c') (n+1) (xs++[.string ⟨u.toArray⟩])->w1.grownBy w' (Value.slice A n c).ownBlock->wpList Tryd.prog ops Q rest (a.put o.dst (.slice A' (n+1) c')) w'):
  wpList Tryd.prog ops Q (o::rest) a (w1.alloc (.cells #[.string ⟨u.toArray⟩] 9)):=
 Eo hgd s x ho w1 w1.heap.size rfl base n c A xs u hs hx hown hn hb h
theorem dQ {ops:Array Oper}{rest:List Oper}{o:Oper}{a:Act}{Q:Exit->Act->World->Prop}(hgd:o.guard=none)(s x:Operand)
  (ho:o.op= .call {callee:= .builtin .append,args:= #[s,x],argTypes:= #[46,46]})
  (w1:World) (base n c:Nat) (A:Option Addr) (xs:List Value) (Bd:Nat) (A2:Option Addr) (m c2:Nat) (ws:List B) (hs:a.eval s= .slice A n c) (hx:a.eval x= .slice A2 m c2)
  (hown:w1.ownsRow base 9 1 (.slice A n c) n xs) (hr:Rd w1 Bd A2 m 1 (strs ws)) (hn:n+m<=1000000000000) (hb:base<=w1.heap.size)
  (h:∀A' c' w',w'.ownsRow base 9 1 (.slice A' (n+m) c') (n+m) (xs++strs ws)->w1.grownBy w' (Value.slice A n c).ownBlock->wpList Tryd.prog ops Q rest (a.put o.dst (.slice A' (n+m) c')) w'):
  wpList Tryd.prog ops Q (o::rest) a w1:=by
 obtain⟨i0,hi0,hz0,hz1,hz2⟩:=info_parts yt;refine jL _ hgd s x 46 ho base 9 i0 _ 1 16 Tryd.underlying46 hi0 hz0 hz1 hz2 rfl (by decide) (.slice A n c) n xs hs hown Bd A2 m c2 (strs ws) hx hr (Az ws) (by simp only[maxLen];omega) (by omega) hb ?_;intro v' w' ho' hg _;obtain⟨A',c',rfl⟩:=uZ ho';exact h A' c' w' ho' hg
def dW (w:World)(ws:List B)(e:Ending)(w':World):Prop:=∃A c,e= .returned (.slice A ws.length c)/\w'.ownsRow w.heap.size 9 1 (.slice A ws.length c) ws.length (strs ws)/\Below w.heap.size w w'
def afn (w:World)(ws:List B)(v:Value)(wr:World):Prop:=∃A c,v= .slice A ws.length c/\wr.ownsRow w.heap.size 9 1 (.slice A ws.length c) ws.length (strs ws)/\Below w.heap.size w wr
theorem afn.nil (w:World):afn w [] (.slice none 0 0) w:=⟨none,0,rfl,⟨rfl,.inl ⟨rfl,rfl⟩⟩,agE _ _⟩
theorem afn.next {w wr w1 w2:World}{ws ws' us:List B}{A A':Option Addr}{c c' n:Nat}(hb:Below w.heap.size w wr)(hb1:Below wr.heap.size wr w1)(ho:wr.ownsRow w.heap.size 9 1 (.slice A ws.length c) ws.length (strs ws))
  (h2:w2.ownsRow w.heap.size 9 1 (.slice A' n c') n (strs ws++strs us)) (hg:w1.grownBy w2 (Value.slice A ws.length c).ownBlock) (hw:ws'=ws++us):afn w ws' (.slice A' n c') w2:=by
 have hn:n=ws'.length:=by have:=h2.1;rw[hw,la];simp[IM] at this;omega
 subst hn;refine⟨A',c',rfl,by rw[hw,vF];rw[hw] at h2;exact h2,?_⟩;exact(hb.trans (hb1.mono hb.size)).grown hg (nt hb.size hb1.size) (fun g e=>(ho.lt g e).1)
def aft (w:World)(ws:List B)(n:Nat)(A:Option Addr)(c:Nat)(wr:World):Prop:=n=ws.length/\wr.ownsRow w.heap.size 9 1 (.slice A n c) n (strs ws)/\Below w.heap.size w wr
theorem aft.next {w wr w1 w2:World}{ws us:List B}{A A':Option Addr}{c c' n m:Nat}(h:aft w ws n A c wr)(hb1:Below wr.heap.size wr w1)
  (h2:w2.ownsRow w.heap.size 9 1 (.slice A' m c') m (strs ws++strs us)) (hg:w1.grownBy w2 (Value.slice A n c).ownBlock):aft w (ws++us) m A' c' w2:=by
 obtain⟨rfl,ho,hb⟩:=h;obtain⟨A2,c2,e,r1,r2⟩:=afn.next hb hb1 ho h2 hg rfl;simp only[ahr] at e;obtain⟨rfl,rfl,rfl⟩:=e;exact⟨rfl,r1,r2⟩
theorem aft.s {w wr:World}{ws:List B}{A:Option Addr}{c n:Nat}(h:aft w ws n A c wr):afn w ws (.slice A n c) wr:=by obtain⟨rfl,ho,hb⟩:=h;exact⟨A,c,rfl,ho,hb⟩
theorem eG {w:World}{base n m c size:Nat}{e:TypeId}{A:Option Addr}{xs:List Value}(h:w.ownsRow base e size (.slice A n c) n xs)(hn:n=m):Rd w w.heap.size A m size xs:=by subst hn;obtain⟨A',c',e,h'⟩:=Rd.afr h;simp only[ahr,true_and] at e;rw[e.1];exact h'
theorem ae {w w':World}(hb:Below w.heap.size w w'){p:Addr}{v:Value}(h:w.cell? p=some v):w'.cell? p=some v:=(hb.cell (World.block_lt_of_cell? w p h)).trans h
theorem kE {α β:Type}(f:α->β)(l:List α)(k:Nat)(x:α)(h:l[k]? =some x):(l.take (k+1)).map f=(l.take k).map f++[f x]:=by obtain⟨hk,hg⟩:=agG.1 h;rw[agT hk,hg];simp
theorem bG {α β:Type}(f:α->List β)(l:List α)(k:Nat)(x:α)(h:l[k]? =some x):(l.take (k+1)).flatMap f=(l.take k).flatMap f++f x:=by obtain⟨hk,hg⟩:=agG.1 h;rw[agT hk,hg];simp
def PN (w:World)(g:Nat)(gs:List aeS):Prop:=∃A c,w.cell? ⟨g,1,none⟩=some (.slice A gs.length c)/\Sl aeU 9 w (FT w) A gs
theorem PN.below {w w':World}{g:Nat}{gs:List aeS}(h:PN w g gs)(hb:Below w.heap.size w w'):PN w' g gs:=by obtain⟨A,c,h1,h2⟩:=h;exact⟨A,c,(hb.cell (World.block_lt_of_cell? w _ h1)).trans h1,(KP.below hb).sl aeU.ok h2⟩
theorem X8 (gs:List aeS)(n:Int)(h:n<0):bM gs n=63::af n:=by rw[bM,if_pos h]
theorem VW (gs:List aeS)(n:Int)(h:(gs.length:Int)<=n):bM gs n=63::af n:=by
 rw[bM];split
 ·rfl
 rw[ag2 (by omega)]
theorem Za (gs:List aeS)(n:Int)(x:aeS)(h0:0<=n)(h:gs[n.toNat]? =some x):bM gs n=x.name:=by rw[bM,if_neg (by omega),h]
theorem mJ (a b:B):(ByteArray.mk a.toArray)++⟨b.toArray⟩=⟨(a++b).toArray⟩:=by apply ByteArray.ext;simp
theorem uK (w:World)(g:Nat)(gs:List aeS)(n:Int)(hT:Tabs w)(hn:I64 n)(hP:PN w g gs)(hgl:gs.length<=1000000000000):
  Calls Tryd.prog 26 #[.pointer (some ⟨g,0,none⟩),.int .i64 n] w fun e w'=>e= .returned (.string ⟨(bM gs n).toArray⟩)/\Below w.heap.size w w':=by
 obtain⟨A,c,hc,hA⟩:=hP;by_cases h0:n<0
 ·have hnm:=hd0 (X8 gs n h0);have hnum:=hd0 (aK w n hT hn);have happ:(ByteArray.mk #[63])++⟨(af n).toArray⟩=⟨(63::af n).toArray⟩:=mJ [63] (af n);have hil:=oL hn;clear hn;go_enter Tryd.func26,Tryd.ntmps26
  go_wp2_with (go_at_call 21;refine hnum.out.mono ?_;rintro e w1 ⟨rfl,hb1⟩)
  go_ret
  exact⟨by rw[hnm.out];rfl,hb1⟩
 by_cases h1:(gs.length:Int)<=n
 ·have hnm:=hd0 (VW gs n h1);have hnum:=hd0 (aK w n hT hn);have happ:(ByteArray.mk #[63])++⟨(af n).toArray⟩=⟨(63::af n).toArray⟩:=mJ [63] (af n);have hil:=oL hn;clear hn;go_enter Tryd.func26,Tryd.ntmps26
  go_wp2_with (go_at_call 21;refine hnum.out.mono ?_;rintro e w1 ⟨rfl,hb1⟩)
  go_ret
  exact⟨by rw[hnm.out];rfl,hb1⟩
 obtain⟨m,rfl⟩:∃m:Nat,n=m:=⟨n.toNat,by omega⟩
 have hm:m<gs.length:=by omega
 obtain⟨b,o,x,A3,c3,A4,c4,A5,c5,A6,c6,A7,c7,A8,c8,rfl,-,hx,q0,-⟩:=hA.aeT hm;have hnm:=hd0 (Za gs m x (by omega) (by simpa using hx.out));clear hn hx h1 h0;go_enter Tryd.func26,Tryd.ntmps26
 go_wp2;go_ret
 exact⟨by rw[hnm.out];rfl,agE _ _⟩
theorem qZ (w:World)(A:Option Addr)(c:Nat)(l:List Int)(hT:Tabs w)(hA:Sl aeQ 1 w (FT w) A l)(hl:l.length<=100000000000):
  Calls Tryd.prog 23 #[.slice A l.length c] w (dW w (l.map af)):=by
 go_enter Tryd.func23,Tryd.ntmps23
 go_wp2;go_loopw [3,8] (fun v i wr=>∃k:Nat,k<=l.length/\i= .int .i64 k/\afn w ((l.take k).map af) v wr) (fun _ i _=>l.length - (intOf i).toNat)
 case atStart=>exact⟨0,nz _,rfl,by simpa using afn.nil w⟩
 case round=>
  obtain⟨k,hk,rfl,A3,c3,rfl,hown,hbl⟩:=hrel;have hlk:((l.take k).map af).length=k:=by simp;omega
  by_cases hlt:k<l.length
  ·obtain⟨b,o,x,rfl,-,hx,q1,hr⟩:=((KP.below hbl).sl aeQ.ok hA).int hlt;have hn:=hd0 (aK wr x (hT.all hbl) hr);have HS:=hd0 (kE af l k x hx.out);have HL:=hd0 hlk;generalize hws:(l.take k).map af=ws at*
   have s0:=hbl.size;have hll:ws.length<=1000000000000:=by rw[HL.out];omega
   clear hx hr hws hlk;go_wp2_with (first
    |(go_at_call 21;refine hn.out.mono ?_;rintro e w1 ⟨rfl,hb1⟩;have s1:=hb1.size)
    |(at_builtin;refine bC rfl (.tmp 12) (.tmp 15) rfl w1 w.heap.size ws.length c3 A3 (strs ws) (af x) rfl rfl (own_below hown hb1) hll (by omega) ?_;intro A4 c4 w2 ho2 hg2))
   go_roundw
   case rel=>exact⟨k+1,by omega,by simp,afn.next hbl hb1 hown (us:=[af x]) ho2 hg2 HS.out⟩
   case measure=>simp[intOf];omega
  obtain rfl:k=l.length:=by omega
  have HL:Hid ((l.take l.length).map af=l.map af):=by show _=_;rw[agK]
  generalize hws:(l.take l.length).map af=ws at*
  clear hws hlk;go_wp2;go_ret
  rw[<-HL.out];exact⟨A3,c3,rfl,hown,hbl⟩
theorem G8 (w:World)(g:Nat)(gs:List aeS)(A:Option Addr)(c:Nat)(l:List Int)(hT:Tabs w)(hP:PN w g gs)(hgl:gs.length<=1000000000000)(hA:Sl aeQ 1 w (FT w) A l)(hl:l.length<=100000000000):
  Calls Tryd.prog 72 #[.pointer (some ⟨g,0,none⟩),.slice A l.length c] w (dW w (l.map (bM gs))):=by
 go_enter Tryd.func72,Tryd.ntmps72
 go_wp2;go_loopw [5,10] (fun v i wr=>∃k:Nat,k<=l.length/\i= .int .i64 k/\afn w ((l.take k).map (bM gs)) v wr) (fun _ i _=>l.length - (intOf i).toNat)
 case atStart=>exact⟨0,nz _,rfl,by simpa using afn.nil w⟩
 case round=>
  obtain⟨k,hk,rfl,A3,c3,rfl,hown,hbl⟩:=hrel;have hlk:((l.take k).map (bM gs)).length=k:=by simp;omega
  by_cases hlt:k<l.length
  ·obtain⟨b,o,x,rfl,-,hx,q1,hr⟩:=((KP.below hbl).sl aeQ.ok hA).int hlt;have hn:=hd0 (uK wr g gs x (hT.all hbl) hr (hP.below hbl) hgl);have HS:=hd0 (kE (bM gs) l k x hx.out);have HL:=hd0 hlk;generalize hws:(l.take k).map (bM gs)=ws at*
   have s0:=hbl.size;have hll:ws.length<=1000000000000:=by rw[HL.out];omega
   clear hx hr hws hlk;go_wp2_with (first
    |(go_at_call 26;refine hn.out.mono ?_;rintro e w1 ⟨rfl,hb1⟩;have s1:=hb1.size)
    |(at_builtin;refine bC rfl (.tmp 14) (.tmp 18) rfl w1 w.heap.size ws.length c3 A3 (strs ws) (bM gs x) rfl rfl (own_below hown hb1) hll (by omega) ?_;intro A4 c4 w2 ho2 hg2))
   go_roundw
   case rel=>exact⟨k+1,by omega,by simp,afn.next hbl hb1 hown (us:=[bM gs x]) ho2 hg2 HS.out⟩
   case measure=>simp[intOf];omega
  obtain rfl:k=l.length:=by omega
  have HL:Hid ((l.take l.length).map (bM gs)=l.map (bM gs)):=by show _=_;rw[agK]
  generalize hws:(l.take l.length).map (bM gs)=ws at*
  clear hws hlk;go_wp2;go_ret
  rw[<-HL.out];exact⟨A3,c3,rfl,hown,hbl⟩
end
section
open Go.RowKit
def TS (ts:List TypeId)(base:Nat)(w:World):Bs:=fun b=>base<=b/\∃cs t,Bk w b t cs/\t∈ts
theorem TS.lt {ts:List TypeId}{base:Nat}{w:World}:∀b,TS ts base w b->b<w.heap.size:=fun b ⟨_,_,_,h,_⟩=>h.lt
theorem TS.mono {ts ts':List TypeId}{base base':Nat}{w:World}(h:∀t∈ts,t∈ts')(hb:base'<=base):∀b,TS ts base w b->TS ts' base' w b:=fun b ⟨h1,cs,t,h2,h3⟩=>⟨by omega,cs,t,h2,h t h3⟩
def Sp (m:Nat)(e:TypeId)(w w':World):Prop:=∃row,w.grownBy w' row/\∀x,row=some x->m<=x/\∃cs,Bk w x e cs
section
variable {m:Nat} {e t:TypeId} {w w':World}
theorem Sp.size (h:Sp m e w w'):w.heap.size<=w'.heap.size:=by obtain⟨row,hg,_⟩:=h;exact hg.size
theorem Sp.bk {g:Nat}{cs:Array Value}(h:Sp m e w w')(hb:Bk w g t cs)(hne:t≠e):Bk w' g t cs:=by
 obtain⟨row,hg,hr⟩:=h;exact(hg.block g hb.lt (fun e'=>by
  obtain⟨-,cs',hk⟩:=hr g e'.symm;exact hne (jM hb hk).1)).trans hb
theorem Sp.own {base size n:Nat}{v:Value}{xs:List Value}(h:Sp m e w w')(ho:w.ownsRow base t size v n xs)(hne:t≠e):w'.ownsRow base t size v n xs:=by
 obtain⟨row,hg,hr⟩:=h;refine ho.kept hg ?_;cases hb:v.ownBlock with
 |none=>exact .inl rfl
 |some g=>exact .inr (fun e'=>by
   obtain⟨-,cs',hk⟩:=hr g e'.symm;obtain⟨cur,hk2⟩:=gW ho g hb;exact hne (jM hk2 hk).1)
theorem Sp.ts {ts:List TypeId}{base:Nat}(h:Sp m e w w')(hts:e ∉ ts):Same (TS ts base w) w w'/\∀b,TS ts base w b->TS ts base w' b:=by
 have key:∀b,TS ts base w b->w'.heap[b]? =w.heap[b]? :=fun b ⟨_,cs,t',hk,ht⟩=>by
  obtain⟨row,hg,hr⟩:=h;exact hg.block b hk.lt (fun e'=>by
   obtain⟨-,cs',hk'⟩:=hr b e'.symm;exact hts ((jM hk hk').1 ▸ ht))
 exact⟨key,fun b hb=>by
  obtain⟨h1,cs,t',hk,ht⟩:=hb;exact⟨h1,cs,t',(key b ⟨h1,cs,t',hk,ht⟩).trans hk,ht⟩⟩
theorem Sp.sl {α:Type}{R:Rel α}(ok:R.Ok){size:Nat}{A:Option Addr}{xs:List α}{ts:List TypeId}{base:Nat}(h:Sp m e w w')(hts:e ∉ ts)(hs:Sl R size w (TS ts base w) A xs):Sl R size w' (TS ts base w') A xs:=hs.moved ok (h.ts hts)
theorem Sp.fl {α:Type}{R:Rel α}(ok:R.Ok){size:Nat}{cells:List Value}{xs:List α}{ts:List TypeId}{base:Nat}(h:Sp m e w w')(hts:e ∉ ts)(hs:Fl R size w (TS ts base w) cells xs):Fl R size w' (TS ts base w') cells xs:=hs.moved ok (h.ts hts)
theorem Sp.rd {A:Option Addr}{n size:Nat}{cs:List Value}(h:Sp m e w w')(hm:m<=w.heap.size)(hr:Rd w m A n size cs):Rd w' m A n size cs:=by obtain⟨row,hg,hx⟩:=h;exact hr.grown hg hm (fun g eg=>(hx g eg).1)
theorem Sp.mk {fs:Nat->Value}{lp:Int}(h:Sp m e w w')(hk:Mk w m fs lp)(hne:kw≠e):Mk w' m fs lp:=by have hm:=hk.lt;obtain⟨A,n,c,a,zs,h1,h2,h3,h4,h5⟩:=hk;exact⟨A,n,c,a,zs,h.bk h1 hne,h2,h3,h.rd (by omega) h4,h5⟩
theorem Sp.below (hb:Below w.heap.size w w'):Sp m e w w':=⟨none,dm hb none,fun x hx=>by cases hx⟩
theorem Sp.next {fs:Nat->Value}{lp:Int}(hk:Mk w m fs lp)(hv:Mv m w w'):Sp m kw w w':=⟨some m,hv,fun x hx=>by
 injection hx with hx
 subst hx;obtain⟨A,n,c,a,zs,h1,-⟩:=hk;exact⟨ai _,_,h1⟩⟩
theorem Sp.push {base size n:Nat}{v:Value}{xs:List Value}(ho:w.ownsRow base e size v n xs)(hm:m<=base)(hg:w.grownBy w' v.ownBlock):Sp m e w w':=⟨_,hg,fun x hx=>⟨nt hm (ho.lt x hx).1,gW ho x hx⟩⟩
theorem Sp.set {g:Nat}{cs:Array Value}(hb:Bk w g e cs)(hm:m<=g)(j:Nat)(u:Value):Sp m e w (w.setCell ⟨g,j,none⟩ u):=⟨some g,bU (World.grownBy.refl _ _) (.inl rfl) u,fun x hx=>by
 injection hx with hx
 subst hx;exact⟨hm,cs,hb⟩⟩
theorem yA (m:Nat)(w:World):Mv m w w:=World.grownBy.refl _ _
theorem ql {w0:World}{row:Option Nat}(h:Mv m w0 w)(hg:w.grownBy w' row)(hr:∀x,row=some x->w0.heap.size<=x\/x=m):Mv m w0 w':=
 ⟨hg.os.trans h.os,hg.tape.trans h.tape,hg.output.trans h.output,nt h.size hg.size,fun i hi hne=>(hg.block i (agN hi h.size) (fun e'=>by
  rcases hr i e'.symm with h1|h1
  ·omega
  exact hne (by rw[h1]))).trans (h.block i hi hne)⟩
theorem iW {w0:World}(h:Mv m w0 w)(hb:Below w.heap.size w w'):Mv m w0 w':=ql h (dm hb none) (fun x hx=>by cases hx)
theorem eu {w0:World}(h:Mv m w0 w)(hv:Mv m w w'):Mv m w0 w':=ql h hv (fun x hx=>by injection hx with hx;exact .inr hx.symm)
theorem jl {w0:World}{base size n:Nat}{v:Value}{xs:List Value}(h:Mv m w0 w)(ho:w.ownsRow base e size v n xs)(hb:w0.heap.size<=base)(hg:w.grownBy w' v.ownBlock):Mv m w0 w':=ql h hg (fun x hx=> .inl (nt hb (ho.lt x hx).1))
theorem qC {w0:World}{g:Nat}(h:Mv m w0 w)(hg:w0.heap.size<=g)(j:Nat)(u:Value):Mv m w0 (w.setCell ⟨g,j,none⟩ u):=ql h (bU (World.grownBy.refl _ _) (.inl rfl) u) (fun x hx=>by injection hx with hx;exact .inl (by rw[<-hx];exact hg))
theorem dh {b o:Nat}{u:Value}(hv:Mv m w w')(hne:b≠m)(h:w.cell? ⟨b,o,none⟩=some u):w'.cell? ⟨b,o,none⟩=some u:=by have hb:=World.block_lt_of_cell? w _ h;exact Same.cell (S:=fun x=>x=b) (fun x hx=>by subst hx;exact hv.block x hb (fun e'=>hne (by injection e'))) rfl h
theorem cZ {α:Type}{R:Rel α}{size:Nat}{cells:List Value}{xs:List α}{A:Option Addr}{base b0 n c:Nat}{ts:List TypeId}(h:w.ownsRow base e size (.slice A n c) n cells)(hf:Fl R size w (TS ts b0 w) cells xs)(he:e∈ts)(hb:b0<=base)(hsz:0<size):Sl R size w (TS ts b0 w) A xs:=
 Sl.afQ h hf (fun g hg=>by
  obtain⟨cur,hk⟩:=gW h g hg;exact⟨by have:=(h.lt g hg).1;omega,cur,e,hk,he⟩) hsz
theorem Sl.ts {α:Type}{R:Rel α}(ok:R.Ok){size:Nat}{A:Option Addr}{xs:List α}{ts ts':List TypeId}{base base':Nat}(h:Sl R size w (TS ts base w) A xs)(hs:∀t∈ts,t∈ts')(hb:base'<=base):Sl R size w (TS ts' base' w) A xs:=h.mono ok (TS.mono hs hb)
end
theorem bQ {e t size:Nat}(E:ElT e t size)(ty:TypeId)(w1:World)(base n c:Nat)(A:Option Addr)(xs:List Value)(news:Array Value)(hnl:news.size=size)(hown:w1.ownsRow base e size (.slice A n c) n xs)(h1:∀u∈news.toList,u.oneCell'=true)(hn:n<=10000000000)(hb:base<=w1.heap.size):
  ∃A' c' w',(Builtin.append_ #[t,t] ty #[.slice A n c,.slice (some ⟨w1.heap.size,0,none⟩) 1 1]).run Tryd.prog (w1.alloc (.cells news e))= .ok (.slice A' (n+1) c') w'/\w'.ownsRow base e size (.slice A' (n+1) c') (n+1) (xs++news.toList)/\w1.grownBy w' (Value.slice A n c).ownBlock/\Loc w1 (.slice A n c) (.slice A' (n+1) c'):=by
 obtain⟨A',c',w',hrun,h2,h3,h4⟩:=yg E ty (w1.alloc (.cells news e)) base n c A xs (hown.alloc _) (w1.heap.size+1) (some ⟨w1.heap.size,0,none⟩) 1 1 news.toList (Rd.newAt _ _ rfl news e 1 size (by omega)) h1 (by omega) (by simp;omega);refine⟨A',c',w',hrun,h2,⟨h3.os,h3.tape,h3.output,nt (by simp) h3.size,fun i hi hne=> ?_⟩,h4.imp id fun h5 g hg=>by have:=h5 g hg;simp at this;omega⟩;exact(h3.block i (by simp;omega) hne).trans (Below.heap_alloc _ _ _ hi)
end
section
open Go.RowKit
theorem aU (z:Int)(k:Nat)(h:1<=k):∃r:Int,z.tmod (k:Int)=r/\ -(k:Int)<r/\r<k:=by
 refine⟨_,rfl,?_,?_⟩
 ·rw[Int.tmod_eq_emod];have h1:=Int.emod_nonneg z (show(k:Int)≠0 by omega);split
  ·omega
  rename_i hn;have h2:z % (k:Int)≠0:=fun e=>hn (.inr (Int.dvd_of_emod_eq_zero e))
  omega
 exact Int.tmod_lt_of_pos z (by omega)
theorem aH (r:Int)(k:Nat)(h:1<=k)(h0:0<=r):∃x:Nat,r.tmod (k:Int)=x/\x<k:=by
 refine⟨(r % (k:Int)).toNat,?_,?_⟩
 ·rw[Int.tmod_eq_emod_of_nonneg h0,Int.toNat_of_nonneg (Int.emod_nonneg _ (by omega))]
 have:=Int.emod_lt_of_pos r (show(0:Int)<k by omega);have:=Int.emod_nonneg r (show(k:Int)≠0 by omega);omega
def Il (w:World)(m:Nat)(fs:Nat->Value)(lp:Int)(k:Nat)(e:Ending)(w':World):Prop:=∃x:Nat,x<k/\e= .returned (.int .i64 x)/\Mk w' m fs lp/\Mv m w w'
theorem ay (w:World)(m:Nat)(fs:Nat->Value)(lp:Int)(k:Nat)(h:Mk w m fs lp)(h1:1<=k)(hk:k<=1000000):
  Calls Tryd.prog 36 #[.pointer (some ⟨m,0,none⟩),.int .i64 k] w (Il w m fs lp k):=by
 obtain⟨A,n,c,a,zs,hb,ha,hn,hr,hz⟩:=h;have HB:=hd0 hb;have HR:=hd0 hr;have HZ:=hd0 hz;have q0:w.cell? ⟨m,0,none⟩=some (.slice A n c):=hb.cell 0;have q1:w.cell? ⟨m,1,none⟩=some (.int .i64 a):=hb.cell 1;have y1:=hb.frozen 1;have zm:=hb.lt;by_cases hlt:a<n
 ·obtain⟨b,o,z,rfl,hbm,hx,q2⟩:=hr.atI hlt;have hzi:=hz z (agM hx.out);obtain⟨r,hr1,hr2,hr3⟩:=aU z k h1;obtain⟨x,hx1,hx2⟩:=aH (r+k) k h1 (by omega);unfold I64 at hzi;clear hb hr hz hx;go_enter Tryd.func36,Tryd.ntmps36
  go_wp2_with fail
  go_quiet (fail)
  go_wp2_with fail
  go_quiet (fail)
  go_wp2_with fail
  go_ret
  refine⟨x,hx2,rfl,?_,bU (BK (World.grownBy.refl _ _) _) (.inl rfl) _⟩;refine⟨some ⟨b,o,none⟩,n,c,a+1,zs,?_,hlt,hn,(HR.out.drewN _).setCell (p:=⟨m,1,none⟩) (ai _) _,HZ.out⟩;exact Bk.set (w:=w.drewN _) HB.out 1 (.int .i64 (a+1))
 have e1:decide ((n:Int)<=a)=true:=by simp;omega
 clear hb hr hz;go_enter Tryd.func36,Tryd.ntmps36
 go_wp2_with fail
 go_quiet (fail)
 go_wp2_with fail
 go_ret
 exact⟨0,h1,rfl,⟨A,n,c,a,zs,HB.out,ha,hn,HR.out.drewN _,HZ.out⟩,BK (World.grownBy.refl _ _) _⟩
theorem Lr:∀k:Fin 8,∃s,bF[k.val]? =some s/\sJ bF s=(k.val:Int)+1/\bI s=true:=by decide+kernel
theorem MJ:∀k:Fin 4,∃s,anchorNames[k.val]? =some s/\sJ anchorNames s=(k.val:Int)+1/\bI s=true:=by decide+kernel
theorem DT (n:Int)(h1:1<=n)(h2:n<=8):sJ bF (pick bF n)=n/\bI (pick bF n)=true:=by
 obtain⟨s,e1,e2,e3⟩:=Lr ⟨(n - 1).toNat,by omega⟩;have:pick bF n=s:=by unfold pick;rw[if_neg (by omega)];simp only at e1;rw[e1];rfl
 rw[this];simp only at e2;exact⟨by omega,e3⟩
theorem EM (n:Int)(h1:1<=n)(h2:n<=4):sJ anchorNames (pick anchorNames n)=n/\bI (pick anchorNames n)=true:=by
 obtain⟨s,e1,e2,e3⟩:=MJ ⟨(n - 1).toNat,by omega⟩;have:pick anchorNames n=s:=by unfold pick;rw[if_neg (by omega)];simp only at e1;rw[e1];rfl
 rw[this];simp only at e2;exact⟨by omega,e3⟩
section
variable (gl:Gl) (s:PS) (r:List B)
theorem U5:stmt gl s (mG::r)=Lp s r:=by simp[stmt]
theorem Vq:stmt gl s (yD::r)=LW s r:=by simp[stmt]
theorem PP:stmt gl s (lM::r)=CU s r:=by simp[stmt]
theorem Zl:stmt gl s (lY::r)=Tj s r:=by simp[stmt]
theorem UL:stmt gl s (tH::r)=KZ s r:=by simp[stmt]
theorem Q4:stmt gl s (iL::r)=GY gl s r:=by simp[stmt]
theorem KO:stmt gl s (iG::r)=Ae s r:=by simp[stmt]
theorem UT:stmt gl s (sU::r)=Ns gl s r:=by simp[stmt]
theorem Pi:stmt gl s (nD::r)=Dc s r:=by simp[stmt]
theorem QH:stmt gl s (pR::r)=Hg s r:=by simp[stmt]
theorem Vr:stmt gl s (pJ::r)=LD s r:=by simp[stmt]
theorem UN:stmt gl s (yC::r)=ML gl s r:=by simp[stmt]
theorem PR:stmt gl s (iT::r)=Dy s r:=by simp[stmt]
theorem Vt:stmt gl s (dC::r)=Fv gl s r:=by simp[stmt]
theorem Np:stmt gl s (lu::r)=zO s r:=by simp[stmt]
end
theorem DJ {gl:Gl}{gs:List aeS}(h:afo gl gs)(kind:Int)(r:ae4)(hr:OkR gs.length kind r):∀w∈outW gs kind r,w≠[47]/\w≠[62]/\bI w=true:=by
 have num:∀(n:Int),af n≠[47]/\af n≠[62]/\bI (af n)=true:=fun n=>⟨fun e=>by
  have:=lZ n 47 (by rw[e];simp)
  revert this
  decide,fun e=>by
  have:=lZ n 62 (by rw[e];simp)
  revert this
  decide,oh n⟩
 intro w hw;unfold outW at hw;split at hw
 ·rw[ag7] at hw;obtain⟨n,hn,rfl⟩:=hw;have h1:=(uT h (hr.out n hn)).2;have:=Cj h1;exact⟨this.2.2.1,this.2.2.2,mQ h1⟩
 split at hw
 ·rw[ag7] at hw;obtain⟨c,hc,rfl⟩:=hw;have NH:(58:UInt8)∈af c.at'++58::af c.lookup:=by simp
  refine⟨fun e=> ?_,fun e=> ?_,(DU c (hr.calls c hc) 0).2.2.2⟩
  ·rw[e] at NH;revert NH;decide
  rw[e] at NH;revert NH;decide
 split at hw
 ·simp only[agF] at hw;subst hw;exact num r.x
 simp at hw
def yu (gs:List aeS)(ws:List B)(l:List (List Int)):Prop:=(∀w∈ws,w≠[47]/\w≠[62])/\uM ws=some (l.map (fun s=>s.map (bM gs)))
theorem PW {gl:Gl}{gs:List aeS}(h:afo gl gs)(hn:gs.length<=1000)(s:PS)(lk:Lookup)(hl:s.f.aeO.getLast? =some lk)(hk:1<=lk.kind/\lk.kind<=8)(r:ae4)(hr:OkR gs.length lk.kind r)
  (u0 u1 u2:List B) (h0:yu gs u0 r.back) (h1:yu gs u1 r.in') (h2:yu gs u2 r.ahead):
  Fv gl s (u0++[47]::u1++[47]::u2++[62]::outW gs lk.kind r)= .ok (uF s fun lk=> {lk with rules:=lk.rules++[r]}):=by
 have hi:∀l:List (List Int),(∀x∈l,OkS gs.length x)->(∀x∈l,∀n∈x,In gs.length n)/\(∀x∈l,(∀n∈x,In gs.length n)/\x.length<=1000)/\l.map setOf=l:=fun l hl=>by
  refine⟨fun x hx=>(hl x hx).2,fun x hx=>⟨(hl x hx).2,nt (Kv (hl x hx)) hn⟩,?_⟩
  conv=>rhs;rw[<-List.map_id l]
  exact List.map_congr_left (fun x hx=>Iu x (hl x hx).1)
 obtain⟨a1,a2,a3⟩:=hi _ hr.back;obtain⟨b1,b2,b3⟩:=hi _ hr.in';obtain⟨c1,c2,c3⟩:=hi _ hr.ahead;have hp:AP (u0++[47]::u1++[47]::u2++[62]::outW gs lk.kind r)=some [u0,u1,u2,outW gs lk.kind r]:=SL _ _ _ _ h0.1 h1.1 h2.1 (fun w hw=>⟨(DJ h _ r hr w hw).1,(DJ h _ r hr w hw).2.1⟩);unfold Fv;simp only[hl,hp,h0.2,h1.2,h2.2,rV h s.cls _ a2,rV h s.cls _ b2,rV h s.cls _ c2,agL,a3,b3,c3];clear h0 h1 h2 hp;obtain⟨q1,q2⟩:=Ve h r.out hr.out 0;obtain⟨d1,d2,d3,-⟩:=MV r.calls hr.calls 0;have x1:=fA r.x hr.x 0;have x2:=(dI r.x hr.x).2;have hcases:lk.kind=1\/lk.kind=2\/lk.kind=3\/lk.kind=4\/lk.kind=5\/lk.kind=6\/lk.kind=7\/lk.kind=8:=by omega
 have hone:=hr.one;have Bc:=hr.outs;have xE:=hr.noC;have xA:=hr.noX;have hin:=hr.in';cases r with
 |mk rb ri ra ro rc rx=>
 simp only at*
 rcases hcases with e|e|e|e|e|e|e|e<;>rw[e] at hone Bc xE xA ⊢
 case inl=>obtain⟨t,rfl,ht⟩:=hone (by simp);have hs:=(hin t (by simp)).1;simp[nZ,outW,q1,q2,xy t ro hs ht,xE,xA]
 case inr.inl=>simp[nZ,outW,q1,q2,xE,xA]
 case inr.inr.inl=>simp[nZ,outW,q1,q2,xE,xA]
 case inr.inr.inr.inl=>have:=Bc (by simp);subst this;simp[nZ,outW,d1,d2,d3,xA]
 case inr.inr.inr.inr.inl=>obtain⟨t,rfl,ht⟩:=hone (by simp);have hs:=(hin t (by simp)).1;simp[nZ,outW,q1,q2,xy t ro hs ht,xE,xA]
 case inr.inr.inr.inr.inr.inl=>have:=Bc (by simp);subst this;simp[nZ,outW,pz,x1,x2,xE]
 case inr.inr.inr.inr.inr.inr.inl=>have:=Bc (by simp);subst this;simp[nZ,outW,xE,xA]
 case inr.inr.inr.inr.inr.inr.inr=>have:=Bc (by simp);subst this;simp[nZ,outW,xE,xA]
theorem Qw {gl:Gl}{gs:List aeS}(h:afo gl gs)(l:List (List Int))(hl:∀s∈l,∀n∈s,In gs.length n):yu gs (bi gs l) l:=⟨fun w hw=>⟨(uX h _ hl w hw).1,(uX h _ hl w hw).2.1⟩,QW h _ hl⟩
end
section
open Go.RowKit Go.Sort
theorem UI (n:Int):(jG n).length<=6:=by
 unfold jG pick;split
 ·simp
 have:∀s∈opNames,s.length<=6:=by decide
 cases h:opNames[(n - 1).toNat]? with
 |none=>simp
 |some s=>exact this s (agM h)
theorem Px (x:Ins)(h:x.a=0):bW x=jG x.op:=by simp[bW,h]
theorem OW (x:Ins)(h:x.a≠0):bW x=jG x.op++58::af x.a:=by simp[bW,h]
theorem sQ (w:World)(A:Option Addr)(c:Nat)(l:List Ins)(hT:Tabs w)(hA:Sl ae9 2 w (FT w) A l)(hl:l.length<=100000000000):
  Calls Tryd.prog 24 #[.slice A l.length c] w (dW w (l.map bW)):=by
 go_enter Tryd.func24,Tryd.ntmps24
 go_wp2;go_loopw [3,9] (fun v i wr=>∃k:Nat,k<=l.length/\i= .int .i64 k/\afn w ((l.take k).map bW) v wr) (fun _ i _=>l.length - (intOf i).toNat)
 case atStart=>exact⟨0,nz _,rfl,by simpa using afn.nil w⟩
 case round=>
  obtain⟨k,hk,rfl,A3,c3,rfl,hown,hbl⟩:=hrel;have hlk:((l.take k).map bW).length=k:=by simp;omega
  by_cases hlt:k<l.length
  ·obtain⟨b,o,x,rfl,-,hx,q0,q1,r0,r1⟩:=((KP.below hbl).sl ae9.ok hA).ins hlt;have HS:=hd0 (kE bW l k x hx.out);have HL:=hd0 hlk;generalize hws:(l.take k).map bW=ws at*
   have s0:=hbl.size;have hll:ws.length<=1000000000000:=by rw[HL.out];omega
   have hb0:Below wr.heap.size wr (wr.alloc (.cells #[.int .i64 x.op,.int .i64 x.a] 72)):=(agE _ _).alloc (ai _) _;have hT1:Tabs (wr.alloc (.cells #[.int .i64 x.op,.int .i64 x.a] 72)):=(hT.all hbl).all hb0;have ho:=hd0 (FH _ x.op hT1);have hn:=hd0 (aK _ x.a hT1 r1);have Hb0:=hd0 hb0;have hol:=UI x.op;have hil:=oL r1;by_cases h0:x.a=0
   ·have HI:=hd0 (Px x h0);have e1:(x.a==0)=true:=by simp[h0]
    have e2:(x.a !=0)=false:=by simp[h0]
    clear hb0 hx r0 r1 hws hlk hT1 h0 hn;go_wp2_with (first
     |(go_at_call 13;refine ho.out.mono ?_;rintro e w' ⟨rfl,rfl⟩)
     |(at_builtin;refine Eo rfl (.tmp 25) (.tmp 27) rfl _ (wr.heap.size+1) (World.size_alloc _ _) w.heap.size ws.length c3 A3 (strs ws) (jG x.op) rfl rfl (hown.alloc _) hll (by simp;omega) ?_;intro A4 c4 w2 ho2 hg2))
    go_roundw
    case rel=>exact⟨k+1,by omega,by simp,afn.next hbl Hb0.out hown (us:=[jG x.op]) ho2 hg2 (by rw[HS.out,HI.out])⟩
    case measure=>simp[intOf];omega
   have HI:=hd0 (OW x h0);have e1:(x.a==0)=false:=by simp[h0]
   have e2:(x.a !=0)=true:=by simp[h0]
   have a1:(ByteArray.mk #[58])++⟨(af x.a).toArray⟩=⟨(58::af x.a).toArray⟩:=mJ [58] _;have a2:(ByteArray.mk (jG x.op).toArray)++⟨(58::af x.a).toArray⟩=⟨(jG x.op++58::af x.a).toArray⟩:=mJ _ _;clear hb0 hx r0 r1 hws hlk hT1 h0;go_wp2_with (first
    |(go_at_call 13;refine ho.out.mono ?_;rintro e w' ⟨rfl,rfl⟩)
    |(go_at_call 21;refine hn.out.mono ?_;rintro e w1 ⟨rfl,hb1⟩;have hb2:Below wr.heap.size wr w1:=Hb0.out.trans (hb1.mono Hb0.out.size);have s1:=hb2.size)
    |(at_builtin;refine bC rfl (.tmp 25) (.tmp 27) rfl _ w.heap.size ws.length c3 A3 (strs ws) (jG x.op++58::af x.a) rfl rfl (own_below hown hb2) hll (by omega) ?_;intro A4 c4 w2 ho2 hg2))
   go_roundw
   case rel=>exact⟨k+1,by omega,by simp,afn.next hbl hb2 hown (us:=[jG x.op++58::af x.a]) ho2 hg2 (by rw[HS.out,HI.out])⟩
   case measure=>simp[intOf];omega
  obtain rfl:k=l.length:=by omega
  have HL:Hid ((l.take l.length).map bW=l.map bW):=by show _=_;rw[agK]
  generalize hws:(l.take l.length).map bW=ws at*
  clear hws hlk;go_wp2;go_ret
  rw[<-HL.out];exact⟨A3,c3,rfl,hown,hbl⟩
theorem Sv (gs:List aeS)(n:Int):setW gs [n]=[bM gs n]:=rfl
theorem EF (gs:List aeS)(l:List Int)(h:l.length≠1):setW gs l=[91]::l.map (bM gs)++[[93]]:=by
 unfold setW;split
 ·simp at h
 rfl
theorem Ja {α:Type}(f:α->List B)(l:List α)(k:Nat):((l.take k).flatMap f).length<=(l.flatMap f).length:=by
 conv=>rhs;rw[<-ag9 k l]
 simp only[aha,la];omega
theorem zy {α:Type}(f:α->List B)(l:List α)(k:Nat)(x:α)(h:l[k]? =some x):((l.take k).flatMap f).length+(f x).length<=(l.flatMap f).length:=by have:=Ja f l (k+1);rw[bG f l k x h,la] at this;exact this
theorem zV (w:World)(g:Nat)(gs:List aeS)(A:Option Addr)(c:Nat)(l:List (List Int))(hT:Tabs w)(hP:PN w g gs)(hgl:gs.length<=1000000000000)(hA:Sl aeR 1 w (FT w) A l)(hl:l.length<=100000000000)(hsl:(bi gs l).length<=10000000000):
  Calls Tryd.prog 71 #[.pointer (some ⟨g,0,none⟩),.slice A l.length c] w (dW w (bi gs l)):=by
 go_enter Tryd.func71,Tryd.ntmps71
 go_wp2;go_loopw [5,10] (fun v i wr=>∃k:Nat,k<=l.length/\i= .int .i64 k/\afn w ((l.take k).flatMap (setW gs)) v wr) (fun _ i _=>l.length - (intOf i).toNat)
 case atStart=>exact⟨0,nz _,rfl,by simpa using afn.nil w⟩
 case round=>
  obtain⟨k,hk,rfl,A3,c3,rfl,hown,hbl⟩:=hrel;by_cases hlt:k<l.length
  ·obtain⟨b,o,x,A1,c1,rfl,-,hx,q9,hA0⟩:=hA.row hlt;have q0:=ae hbl q9;have hA1:=(KP.below hbl).sl aeQ.ok hA0;have HS:=hd0 (bG (setW gs) l k x hx.out);have hwl:=zy (setW gs) l k x hx.out;have hl2:(l.flatMap (setW gs)).length<=10000000000:=hsl;generalize hws:(l.take k).flatMap (setW gs)=ws at*
   have s0:=hbl.size;by_cases h1:x.length=1
   ·obtain⟨n,rfl⟩:∃n,x=[n]:=by
     match x,h1 with
     |[n],_=>exact⟨n,rfl⟩
    obtain⟨b1,o1,y,rfl,-,hy,q1,r1⟩:=hA1.int (k:=0) (by simp);obtain rfl:n=y:=by have:=hy.out;simpa using this
    rw[Nat.add_zero] at q1;have hn:=hd0 (uK wr g gs n (hT.all hbl) r1 (hP.below hbl) hgl);have hll:ws.length<=1000000000000:=by omega
    clear hx hws hA1 h1 hy r1 hwl hl2;simp only[aV,ln,ahh] at q0;go_wp2_with (first
     |(go_at_call 26;refine hn.out.mono ?_;rintro e w1 ⟨rfl,hb1⟩;have s1:=hb1.size)
     |(at_builtin;refine bC rfl (.tmp 17) (.tmp 23) rfl w1 w.heap.size ws.length c3 A3 (strs ws) (bM gs n) rfl rfl (own_below hown hb1) hll (by omega) ?_;intro A4 c4 w2 ho2 hg2))
    go_roundw
    case rel=>exact⟨k+1,by omega,by simp,afn.next hbl hb1 hown (us:=[bM gs n]) ho2 hg2 (by rw[HS.out,Sv])⟩
    case measure=>simp[intOf];omega
   have HW:=hd0 (EF gs x h1);have hxl:ws.length+x.length+2<=10000000000:=by rw[HW.out] at hwl;simp only[la,aV,agL,ln] at hwl;omega
   have e1:(x.length==1)=false:=by simpa using h1
   have e2:((x.length:Int)==1)=false:=by simp;omega
   have hN0:aft w ws ws.length A3 c3 wr:=⟨rfl,hown,hbl⟩
   clear hx hws hwl hl2 h1 hA1 q9;go_wp2_with (first
    |(at_builtin;refine bC rfl (.tmp 25) (.tmp 26) rfl wr w.heap.size ws.length c3 A3 (strs ws) [91] rfl rfl hown (by omega) (by omega) ?_;intro A4 c4 w2 ho2 hg2;have hN2:=hN0.next (us:=[[91]]) (agE _ _) ho2 hg2;have hb2:=hN2.2.2;have s2:=hb2.size)
    |(go_at_call 72;refine(G8 w2 g gs A1 c1 x (hT.all hb2) (hP.below hb2) hgl ((KP.below hb2).sl aeQ.ok hA0) (by omega)).mono ?_;rintro e w3 ⟨A5,c5,rfl,ho3,hb3⟩;have s3:=hb3.size;have hr5:=eG ho3 (agL (bM gs)))
    |(at_builtin;refine dQ rfl (.tmp 28) (.tmp 31) rfl w3 w.heap.size (ws.length+1) c4 A4 _ w3.heap.size A5 x.length c5 (x.map (bM gs)) rfl rfl (own_below ho2 hb3) hr5 (by omega) (by omega) ?_;intro A6 c6 w4 dS hg4;have zG:=hN2.next (us:=x.map (bM gs)) hb3 (by rw[vF];exact dS) hg4;have s4:=zG.2.2.size)
    |(at_builtin;refine bC rfl (.tmp 33) (.tmp 34) rfl w4 w.heap.size _ c6 A6 _ [93] rfl rfl dS (by omega) (by omega) ?_;intro A7 c7 w5 ho5 hg5;have hN5:=zG.next (us:=[[93]]) (agE _ _) (by rw[vF,vF];exact ho5) hg5))
   go_roundw
   case rel=>exact⟨k+1,by omega,by simp,by rw[HS.out,HW.out];simpa using hN5.s⟩
   case measure=>simp[intOf];omega
  obtain rfl:k=l.length:=by omega
  have HL:Hid ((l.take l.length).flatMap (setW gs)=bi gs l):=by show _=_;rw[agK];rfl
  generalize hws:(l.take l.length).flatMap (setW gs)=ws at*
  clear hws;go_wp2;go_ret
  rw[<-HL.out];exact⟨A3,c3,rfl,hown,hbl⟩
end
end Go.Proofs.YtkijckccfookeaaDoor
