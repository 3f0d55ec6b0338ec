/- Lemmas. -/
import Derived.Test.YtkijckccfookeaaGreatDoorV07
set_option linter.unusedVariables false
set_option linter.unusedSimpArgs false
set_option maxRecDepth 100000
set_option maxHeartbeats 32000000
namespace Go.Proofs.YtkijckccfookeaaGreatDoor
section
open Go.RowKit
theorem adn (w:World)(b:UInt8):(convert 68 9 (.slice (some ⟨w.heap.size,0,none⟩) 1 1)).run Tryz.prog (w.alloc (.cells #[.int .u8 b.toNat] 5))= .ok (.string ⟨#[b]⟩) (w.alloc (.cells #[.int .u8 b.toNat] 5)):=
 run_convert_bytes_back (w.alloc (.cells #[.int .u8 b.toNat] 5)) 68 9 5 ⟨w.heap.size,0,none⟩ 1 [b] Tryz.underlying68 Tryz.underlying5 Tryz.underlying9 (fun j hj=>by
  obtain rfl:j=0:=by simpa using hj
  rw[addr_add];exact(Bk.new w 5 #[.int .u8 b.toNat]).cell 0)
theorem rW (a b:B):(ByteArray.mk a.toArray)++⟨b.toArray⟩=⟨(a++b).toArray⟩:=by apply ByteArray.ext;rw[ByteArray.data_append];apply Array.ext';simp
def mW (n:Nat):UInt8:=UInt8.ofNat (48+n % 10)
theorem ZJ (n:Nat):(mW n).toNat=48+n % 10:=by rw[mW,UInt8.toNat_ofNat'];omega
def jR (u:Nat):B:=if _h:u<10 then [mW u] else jR (u / 10)++[mW u]
termination_by u
decreasing_by omega
theorem Js (w:World)(n:Int)(u:Nat)(h:n=48+(u:Int) % 10):(convert 68 9 (.slice (some ⟨w.heap.size,0,none⟩) 1 1)).run Tryz.prog (w.alloc (.cells #[.int .u8 n] 5))= .ok (.string ⟨#[mW u]⟩) (w.alloc (.cells #[.int .u8 n] 5)):=by
 have:=adn w (mW u);rw[ZJ] at this;rw[h];have e:(48+(u:Int) % 10)=((48+u % 10:Nat):Int):=by omega
 rw[e];exact this
def pJ (q:Nat):B:=if q=0 then [] else jR q
theorem XG (q:Nat)(h:0<q):pJ q=pJ (q / 10)++[mW q]:=by
 rw[pJ,if_neg (by omega),jR];split
 ·rw[pJ,if_pos (by omega)];rfl
 rw[pJ,if_neg (by omega)]
theorem PU (U:Nat):jR U=pJ (U / 10)++[mW U]:=by
 rw[jR];split
 ·rw[pJ,if_pos (by omega)];rfl
 rw[pJ,if_neg (by omega)]
theorem VQ (k:Nat):∀u,u<10 ^ (k+1)->(jR u).length<=k+1:=by
 induction k with
 |zero=>intro u hu;rw[jR,dif_pos (by simpa using hu)];simp
 |succ k ih=>
  intro u hu;rw[jR];split
  ·simp
  have:=ih (u / 10) (by rw[MG] at hu;omega);rw[la];simp;omega
theorem MI (u:Nat):jR u=Lib.decDigits u:=by
 induction u using Nat.strongRecOn with
 |_ u ih=>
  rw[jR,Lib.decDigits];split
  ·rename_i h;rw[mW,Nat.mod_eq_of_lt h]
  rw[ih (u / 10) (by omega)];rfl
theorem Yh (s:B)(c:UInt8)(h:s.contains c=false):Lib.indexByte s c= -1:=by
 induction s with
 |nil=>rfl
 |cons d r ih=>
  rw[List.contains_cons,Bool.or_eq_false_iff] at h;have h1:(d==c)=false:=by have:=h.1;simp only[beq_eq_false_iff_ne,ne_eq] at this ⊢;exact fun e=>this e.symm
  rw[Lib.indexByte,h1,ih h.2];rfl
theorem Lc (s:B)(c:UInt8)(h:s.contains c=true):Lib.indexByte s c=((cO c s).length:Int)/\s=cO c s++c::dI c s:=by
 induction s with
 |nil=>simp at h
 |cons d r ih=>
  by_cases hd:d=c
  ·subst hd;simp[Lib.indexByte,cO,dI]
  have h1:(d==c)=false:=by simpa using hd
  have h2:r.contains c=true:=by
   rw[List.contains_cons,Bool.or_eq_true] at h;rcases h with h|h
   ·exact absurd (beq_iff_eq.1 h).symm hd
   exact h
  obtain⟨e1,e2⟩:=ih h2;have p1:cO c (d::r)=d::cO c r:=by show List.takeWhile (· !=c) (d::r)=_;rw[List.takeWhile_cons_of_pos (p:=fun x=>x !=c) (by simpa using hd)];rfl
  have p2:dI c (d::r)=dI c r:=by show(List.dropWhile (· !=c) (d::r)).drop 1=_;rw[List.dropWhile_cons_of_pos (p:=fun x=>x !=c) (by simpa using hd)];rfl
  have hne:(Lib.indexByte r c== -1)=false:=by rw[e1];simp
  rw[Lib.indexByte,h1,p1,p2,hne,e1];refine⟨by simp,?_⟩;rw[akC,<-e2]
theorem adq (a b:B)(c:UInt8):(ByteArray.mk (a++c::b).toArray).extract 0 a.length=⟨a.toArray⟩:=by rw[jE];simp
theorem adm (a b:B)(c:UInt8):(ByteArray.mk (a++c::b).toArray).extract (a.length+1) (a++c::b).length=⟨b.toArray⟩:=by rw[jE,akr,List.drop_append,akU (by omega),show a.length+1 - a.length=1 by omega];rfl
def hasB (c:UInt8)(s:B):Bool:=s.contains c
theorem V3 (w:World)(s:B)(c:UInt8)(hs:s.length<=800000000):Calls Tryz.prog 183 #[.string ⟨s.toArray⟩,.string ⟨#[c]⟩] w fun e w'=>e= .returned (.tuple #[.string ⟨(cO c s).toArray⟩,.string ⟨(dI c s).toArray⟩,.bool (hasB c s)])/\∃n,w'=w.drewN n:=by
 cases hc:hasB c s with
 |false=>
  have hi:=hd0 (Yh s c hc);have hn:Hid (cO c s=s/\dI c s=[]):=by refine Vj (fun d hd e=> ?_);subst e;rw[<-Bool.not_eq_true,hasB] at hc;exact hc (List.contains_iff_mem.2 hd)
  clear hc;go_enter Tryz.func183,Tryz.ntmps183
  go_wp2_with (go_at_call 180;refine(Tryz.stringslite_Index_one ⟨s.toArray⟩ c _).mono ?_;rintro e w' ⟨rfl,rfl⟩;rw[show(Lib.indexByte (ByteArray.mk s.toArray).data.toList c)= -1 from hi.out])
  go_ret3
  rw[hn.out.1,hn.out.2];exact⟨rfl,0,rfl⟩
 |true=>
  obtain⟨h1,h2⟩:=Lc s c hc;have hl:s.length=(cO c s).length+(dI c s).length+1:=by
   conv=>lhs;rw[h2]
   simp;omega
  have hx1:=adq (cO c s) (dI c s) c;have hx2:=adm (cO c s) (dI c s) c;rw[<-h2] at hx1 hx2;have hi:=hd0 h1;clear h1 h2 hc;generalize cO c s=a at*
  generalize dI c s=b at*
  have b0:(0:Int)<=(a.length:Int):=by omega
  have b1:(a.length:Int)<=(s.length:Int):=by omega
  have b2:(a.length:Int)+1<=(s.length:Int):=by omega
  have b3:(0:Int)<=(a.length:Int)+1:=by omega
  have b4:a.length+1<=s.length:=by omega
  clear hl;go_enter Tryz.func183,Tryz.ntmps183
  go_wp2_with (go_at_call 180;refine(Tryz.stringslite_Index_one ⟨s.toArray⟩ c _).mono ?_;rintro e w' ⟨rfl,rfl⟩;rw[show(Lib.indexByte (ByteArray.mk s.toArray).data.toList c)=(a.length:Int) from hi.out])
  go_quiet (fail)
  go_wp2
  go_ret3
  exact⟨rfl,_,rfl⟩
theorem JE (w:World)(s:B)(c:UInt8)(hs:s.length<=800000000):Calls Tryz.prog 168 #[.string ⟨s.toArray⟩,.string ⟨#[c]⟩] w fun e w'=>e= .returned (.tuple #[.string ⟨(cO c s).toArray⟩,.string ⟨(dI c s).toArray⟩,.bool (hasB c s)])/\∃n,w'=w.drewN n:=by
 have hc:=hd0 (V3 w s c hs);clear hs;go_enter Tryz.func168,Tryz.ntmps168
 go_wp2_with (go_at_call 183;refine hc.out.mono ?_;rintro e w' ⟨rfl,n,rfl⟩)
 go_ret3
 exact⟨rfl,n,rfl⟩
end
section
open Go.RowKit Go.Sort
theorem BN:(Tryz.prog.info? 9).map (fun i=>(i.zero,i.size,i.bytes))=some (some (.string ⟨#[]⟩),1,16):=by kernel_rfl
theorem yl {w:World}{base size n:Nat}{e:TypeId}{v:Value}{xs:List Value}(h:w.ownsRow base e size v n xs):∃A c,v= .slice A n c:=by obtain⟨A,c,h,-⟩:=Rd.ail h;exact⟨A,c,h⟩
theorem IR {ops:Array Oper}{rest:List Oper}{o:Oper}{a:Act}{Q:Exit->Act->World->Prop}(hgd:o.guard=none)(s x:Operand)
  (ho:o.op= .call {callee:= .builtin .append,args:= #[s,x],argTypes:= #[48,48]})
  (w1:World) (hsz:Nat) (hh:w1.heap.size=hsz) (base n c:Nat) (A:Option Addr) (xs:List Value) (u:B) (hs:a.eval s= .slice A n c) (hx:a.eval x= .slice (some ⟨hsz,0,none⟩) 1 1)
  (hown:w1.ownsRow base 9 1 (.slice A n c) n xs) (hn:n<=1000000000000) (hb:base<=w1.heap.size)
  (h:∀A' c' w',w'.ownsRow base 9 1 (.slice A' (n+1) c') (n+1) (xs++[.string ⟨u.toArray⟩])->w1.grownBy w' (Value.slice A n c).ownBlock->wpList Tryz.prog ops Q rest (a.put o.dst (.slice A' (n+1) c')) w'):
  wpList Tryz.prog ops Q (o::rest) a (w1.alloc (.cells #[.string ⟨u.toArray⟩] 9)):=by
 subst hh;obtain⟨i0,hi0,hz0,hz1,hz2⟩:=info_parts BN;refine fP _ hgd s x 48 ho base 9 i0 _ 1 16 Tryz.underlying48 hi0 hz0 hz1 hz2 rfl (by decide) (.slice A n c) n xs hs (hown.alloc _) (w1.heap.size+1) (some ⟨w1.heap.size,0,none⟩) 1 1 [.string ⟨u.toArray⟩] hx (Rd.newAt _ _ rfl #[.string ⟨u.toArray⟩] 9 1 1 rfl) (by simp[Value.oneCell']) (by simp only[maxLen];omega) (by omega) (by simp;omega) ?_;intro v' w' ho' hg _;obtain⟨A',c',rfl⟩:=yl ho';refine h A' c' w' ho' ⟨hg.os,hg.tape,hg.output,nt (by simp) hg.size,fun i hi hne=> ?_⟩;exact(hg.block i (by simp;omega) hne).trans (Below.heap_alloc _ _ _ hi)
theorem bD {ops:Array Oper}{rest:List Oper}{o:Oper}{a:Act}{Q:Exit->Act->World->Prop}(hgd:o.guard=none)(s x:Operand)
  (ho:o.op= .call {callee:= .builtin .append,args:= #[s,x],argTypes:= #[48,48]})
  (w1:World) (base n c:Nat) (A:Option Addr) (xs:List Value) (u:B) (hs:a.eval s= .slice A n c) (hx:a.eval x= .slice (some ⟨w1.heap.size,0,none⟩) 1 1)
  (hown:w1.ownsRow base 9 1 (.slice A n c) n xs) (hn:n<=1000000000000) (hb:base<=w1.heap.size)
  (h:∀A' c' w',w'.ownsRow base 9 1 (.slice A' (n+1) c') (n+1) (xs++[.string ⟨u.toArray⟩])->w1.grownBy w' (Value.slice A n c).ownBlock->wpList Tryz.prog ops Q rest (a.put o.dst (.slice A' (n+1) c')) w'):
  wpList Tryz.prog ops Q (o::rest) a (w1.alloc (.cells #[.string ⟨u.toArray⟩] 9)):=
 IR hgd s x ho w1 w1.heap.size rfl base n c A xs u hs hx hown hn hb h
theorem fG {ops:Array Oper}{rest:List Oper}{o:Oper}{a:Act}{Q:Exit->Act->World->Prop}(hgd:o.guard=none)(s x:Operand)
  (ho:o.op= .call {callee:= .builtin .append,args:= #[s,x],argTypes:= #[48,48]})
  (w1:World) (base n c:Nat) (A:Option Addr) (xs:List Value) (Bd:Nat) (A2:Option Addr) (m c2:Nat) (ws:List B) (hs:a.eval s= .slice A n c) (hx:a.eval x= .slice A2 m c2)
  (hown:w1.ownsRow base 9 1 (.slice A n c) n xs) (hr:Rd w1 Bd A2 m 1 (strs ws)) (hn:n+m<=1000000000000) (hb:base<=w1.heap.size)
  (h:∀A' c' w',w'.ownsRow base 9 1 (.slice A' (n+m) c') (n+m) (xs++strs ws)->w1.grownBy w' (Value.slice A n c).ownBlock->wpList Tryz.prog ops Q rest (a.put o.dst (.slice A' (n+m) c')) w'):
  wpList Tryz.prog ops Q (o::rest) a w1:=by
 obtain⟨i0,hi0,hz0,hz1,hz2⟩:=info_parts BN;refine fP _ hgd s x 48 ho base 9 i0 _ 1 16 Tryz.underlying48 hi0 hz0 hz1 hz2 rfl (by decide) (.slice A n c) n xs hs hown Bd A2 m c2 (strs ws) hx hr (DF ws) (by simp only[maxLen];omega) (by omega) hb ?_;intro v' w' ho' hg _;obtain⟨A',c',rfl⟩:=yl ho';exact h A' c' w' ho' hg
def fM (w:World)(ws:List B)(e:Ending)(w':World):Prop:=∃A c,e= .returned (.slice A ws.length c)/\w'.ownsRow w.heap.size 9 1 (.slice A ws.length c) ws.length (strs ws)/\Below w.heap.size w w'
def aix (w:World)(ws:List B)(v:Value)(wr:World):Prop:=∃A c,v= .slice A ws.length c/\wr.ownsRow w.heap.size 9 1 (.slice A ws.length c) ws.length (strs ws)/\Below w.heap.size w wr
theorem aix.nil (w:World):aix w [] (.slice none 0 0) w:=⟨none,0,rfl,⟨rfl,.inl ⟨rfl,rfl⟩⟩,akl _ _⟩
theorem aix.next {w wr w1 w2:World}{ws ws' us:List B}{A A':Option Addr}{c c' n:Nat}(hb:Below w.heap.size w wr)(hb1:Below wr.heap.size wr w1)(ho:wr.ownsRow w.heap.size 9 1 (.slice A ws.length c) ws.length (strs ws))
  (h2:w2.ownsRow w.heap.size 9 1 (.slice A' n c') n (strs ws++strs us)) (hg:w1.grownBy w2 (Value.slice A ws.length c).ownBlock) (hw:ws'=ws++us):aix w ws' (.slice A' n c') w2:=by
 have hn:n=ws'.length:=by have:=h2.1;rw[hw,la];simp[uJ] at this;omega
 subst hn;refine⟨A',c',rfl,by rw[hw,yE];rw[hw] at h2;exact h2,?_⟩;exact(hb.trans (hb1.mono hb.size)).grown hg (nt hb.size hb1.size) (fun g e=>(ho.lt g e).1)
def aiG (w:World)(ws:List B)(n:Nat)(A:Option Addr)(c:Nat)(wr:World):Prop:=n=ws.length/\wr.ownsRow w.heap.size 9 1 (.slice A n c) n (strs ws)/\Below w.heap.size w wr
theorem aiG.next {w wr w1 w2:World}{ws us:List B}{A A':Option Addr}{c c' n m:Nat}(h:aiG w ws n A c wr)(hb1:Below wr.heap.size wr w1)
  (h2:w2.ownsRow w.heap.size 9 1 (.slice A' m c') m (strs ws++strs us)) (hg:w1.grownBy w2 (Value.slice A n c).ownBlock):aiG w (ws++us) m A' c' w2:=by
 obtain⟨rfl,ho,hb⟩:=h;obtain⟨A2,c2,e,r1,r2⟩:=aix.next hb hb1 ho h2 hg rfl;simp only[alh] at e;obtain⟨rfl,rfl,rfl⟩:=e;exact⟨rfl,r1,r2⟩
theorem aiG.s {w wr:World}{ws:List B}{A:Option Addr}{c n:Nat}(h:aiG w ws n A c wr):aix w ws (.slice A n c) wr:=by obtain⟨rfl,ho,hb⟩:=h;exact⟨A,c,rfl,ho,hb⟩
theorem gz {w:World}{base n m c size:Nat}{e:TypeId}{A:Option Addr}{xs:List Value}(h:w.ownsRow base e size (.slice A n c) n xs)(hn:n=m):Rd w w.heap.size A m size xs:=by subst hn;obtain⟨A',c',e,h'⟩:=Rd.ail h;simp only[alh,true_and] at e;rw[e.1];exact h'
theorem ae {w w':World}(hb:Below w.heap.size w w'){p:Addr}{v:Value}(h:w.cell? p=some v):w'.cell? p=some v:=(hb.cell (World.block_lt_of_cell? w p h)).trans h
theorem lY {α β:Type}(f:α->β)(l:List α)(k:Nat)(x:α)(h:l[k]? =some x):(l.take (k+1)).map f=(l.take k).map f++[f x]:=by obtain⟨hk,hg⟩:=akn.1 h;rw[akB hk,hg];simp
theorem bH {α β:Type}(f:α->List β)(l:List α)(k:Nat)(x:α)(h:l[k]? =some x):(l.take (k+1)).flatMap f=(l.take k).flatMap f++f x:=by obtain⟨hk,hg⟩:=akn.1 h;rw[akB hk,hg];simp
def PN (w:World)(g:Nat)(gs:List ahR):Prop:=∃A c,w.cell? ⟨g,1,none⟩=some (.slice A gs.length c)/\Sl ahW 9 w (FT w) A gs
theorem PN.below {w w':World}{g:Nat}{gs:List ahR}(h:PN w g gs)(hb:Below w.heap.size w w'):PN w' g gs:=by obtain⟨A,c,h1,h2⟩:=h;exact⟨A,c,(hb.cell (World.block_lt_of_cell? w _ h1)).trans h1,(KP.below hb).sl ahW.ok h2⟩
theorem abz (gs:List ahR)(n:Int)(h:n<0):bV gs n=63::ag n:=by rw[bV,if_pos h]
theorem abT (gs:List ahR)(n:Int)(h:(gs.length:Int)<=n):bV gs n=63::ag n:=by
 rw[bV];split
 ·rfl
 rw[akL (by omega)]
theorem aay (gs:List ahR)(n:Int)(x:ahR)(h0:0<=n)(h:gs[n.toNat]? =some x):bV gs n=x.name:=by rw[bV,if_neg (by omega),h]
theorem oQ (a b:B):(ByteArray.mk a.toArray)++⟨b.toArray⟩=⟨(a++b).toArray⟩:=by apply ByteArray.ext;simp
theorem xG (w:World)(g:Nat)(gs:List ahR)(n:Int)(hT:Tabs w)(hn:I64 n)(hP:PN w g gs)(hgl:gs.length<=1000000000000):
  Calls Tryz.prog 47 #[.pointer (some ⟨g,0,none⟩),.int .i64 n] w fun e w'=>e= .returned (.string ⟨(bV gs n).toArray⟩)/\Below w.heap.size w w':=by
 obtain⟨A,c,hc,hA⟩:=hP;by_cases h0:n<0
 ·have hnm:=hd0 (abz gs n h0);have hnum:=hd0 (aS w n hT hn);have happ:(ByteArray.mk #[63])++⟨(ag n).toArray⟩=⟨(63::ag n).toArray⟩:=oQ [63] (ag n);have hil:=rH hn;clear hn;go_enter Tryz.func47,Tryz.ntmps47
  go_wp2_with (go_at_call 42;refine hnum.out.mono ?_;rintro e w1 ⟨rfl,hb1⟩)
  go_ret
  exact⟨by rw[hnm.out];rfl,hb1⟩
 by_cases h1:(gs.length:Int)<=n
 ·have hnm:=hd0 (abT gs n h1);have hnum:=hd0 (aS w n hT hn);have happ:(ByteArray.mk #[63])++⟨(ag n).toArray⟩=⟨(63::ag n).toArray⟩:=oQ [63] (ag n);have hil:=rH hn;clear hn;go_enter Tryz.func47,Tryz.ntmps47
  go_wp2_with (go_at_call 42;refine hnum.out.mono ?_;rintro e w1 ⟨rfl,hb1⟩)
  go_ret
  exact⟨by rw[hnm.out];rfl,hb1⟩
 obtain⟨m,rfl⟩:∃m:Nat,n=m:=⟨n.toNat,by omega⟩
 have hm:m<gs.length:=by omega
 obtain⟨b,o,x,A3,c3,A4,c4,A5,c5,A6,c6,A7,c7,A8,c8,rfl,-,hx,q0,-⟩:=hA.ahU hm;have hnm:=hd0 (aay gs m x (by omega) (by simpa using hx.out));clear hn hx h1 h0;go_enter Tryz.func47,Tryz.ntmps47
 go_wp2;go_ret
 exact⟨by rw[hnm.out];rfl,akl _ _⟩
theorem uw (w:World)(A:Option Addr)(c:Nat)(l:List Int)(hT:Tabs w)(hA:Sl ahT 1 w (FT w) A l)(hl:l.length<=100000000000):
  Calls Tryz.prog 44 #[.slice A l.length c] w (fM w (l.map ag)):=by
 go_enter Tryz.func44,Tryz.ntmps44
 go_wp2;go_loopw [3,8] (fun v i wr=>∃k:Nat,k<=l.length/\i= .int .i64 k/\aix w ((l.take k).map ag) v wr) (fun _ i _=>l.length - (intOf i).toNat)
 case atStart=>exact⟨0,nz _,rfl,by simpa using aix.nil w⟩
 case round=>
  obtain⟨k,hk,rfl,A3,c3,rfl,hown,hbl⟩:=hrel;have hlk:((l.take k).map ag).length=k:=by simp;omega
  by_cases hlt:k<l.length
  ·obtain⟨b,o,x,rfl,-,hx,q1,hr⟩:=((KP.below hbl).sl ahT.ok hA).int hlt;have hn:=hd0 (aS wr x (hT.all hbl) hr);have HS:=hd0 (lY ag l k x hx.out);have HL:=hd0 hlk;generalize hws:(l.take k).map ag=ws at*
   have s0:=hbl.size;have hll:ws.length<=1000000000000:=by rw[HL.out];omega
   clear hx hr hws hlk;go_wp2_with (first
    |(go_at_call 42;refine hn.out.mono ?_;rintro e w1 ⟨rfl,hb1⟩;have s1:=hb1.size)
    |(at_builtin;refine bD rfl (.tmp 12) (.tmp 15) rfl w1 w.heap.size ws.length c3 A3 (strs ws) (ag x) rfl rfl (own_below hown hb1) hll (by omega) ?_;intro A4 c4 w2 ho2 hg2))
   go_roundw
   case rel=>exact⟨k+1,by omega,by simp,aix.next hbl hb1 hown (us:=[ag x]) ho2 hg2 HS.out⟩
   case measure=>simp[intOf];omega
  obtain rfl:k=l.length:=by omega
  have HL:Hid ((l.take l.length).map ag=l.map ag):=by show _=_;rw[akr]
  generalize hws:(l.take l.length).map ag=ws at*
  clear hws hlk;go_wp2;go_ret
  rw[<-HL.out];exact⟨A3,c3,rfl,hown,hbl⟩
theorem Kq (w:World)(g:Nat)(gs:List ahR)(A:Option Addr)(c:Nat)(l:List Int)(hT:Tabs w)(hP:PN w g gs)(hgl:gs.length<=1000000000000)(hA:Sl ahT 1 w (FT w) A l)(hl:l.length<=100000000000):
  Calls Tryz.prog 147 #[.pointer (some ⟨g,0,none⟩),.slice A l.length c] w (fM w (l.map (bV gs))):=by
 go_enter Tryz.func147,Tryz.ntmps147
 go_wp2;go_loopw [5,10] (fun v i wr=>∃k:Nat,k<=l.length/\i= .int .i64 k/\aix w ((l.take k).map (bV gs)) v wr) (fun _ i _=>l.length - (intOf i).toNat)
 case atStart=>exact⟨0,nz _,rfl,by simpa using aix.nil w⟩
 case round=>
  obtain⟨k,hk,rfl,A3,c3,rfl,hown,hbl⟩:=hrel;have hlk:((l.take k).map (bV gs)).length=k:=by simp;omega
  by_cases hlt:k<l.length
  ·obtain⟨b,o,x,rfl,-,hx,q1,hr⟩:=((KP.below hbl).sl ahT.ok hA).int hlt;have hn:=hd0 (xG wr g gs x (hT.all hbl) hr (hP.below hbl) hgl);have HS:=hd0 (lY (bV gs) l k x hx.out);have HL:=hd0 hlk;generalize hws:(l.take k).map (bV gs)=ws at*
   have s0:=hbl.size;have hll:ws.length<=1000000000000:=by rw[HL.out];omega
   clear hx hr hws hlk;go_wp2_with (first
    |(go_at_call 47;refine hn.out.mono ?_;rintro e w1 ⟨rfl,hb1⟩;have s1:=hb1.size)
    |(at_builtin;refine bD rfl (.tmp 14) (.tmp 18) rfl w1 w.heap.size ws.length c3 A3 (strs ws) (bV gs x) rfl rfl (own_below hown hb1) hll (by omega) ?_;intro A4 c4 w2 ho2 hg2))
   go_roundw
   case rel=>exact⟨k+1,by omega,by simp,aix.next hbl hb1 hown (us:=[bV gs x]) ho2 hg2 HS.out⟩
   case measure=>simp[intOf];omega
  obtain rfl:k=l.length:=by omega
  have HL:Hid ((l.take l.length).map (bV gs)=l.map (bV gs)):=by show _=_;rw[akr]
  generalize hws:(l.take l.length).map (bV gs)=ws at*
  clear hws hlk;go_wp2;go_ret
  rw[<-HL.out];exact⟨A3,c3,rfl,hown,hbl⟩
end
section
open Go.RowKit
theorem QG:∀k:Fin 8,∃s,az[k.val]? =some s/\iR az s=(k.val:Int)+1/\bM s=true:=by decide+kernel
theorem QS:∀k:Fin 4,∃s,anchorNames[k.val]? =some s/\iR anchorNames s=(k.val:Int)+1/\bM s=true:=by decide+kernel
theorem Ih (n:Int)(h1:1<=n)(h2:n<=8):iR az (pick az n)=n/\bM (pick az n)=true:=by
 obtain⟨s,e1,e2,e3⟩:=QG ⟨(n - 1).toNat,by omega⟩;have:pick az n=s:=by unfold pick;rw[if_neg (by omega)];simp only at e1;rw[e1];rfl
 rw[this];simp only at e2;exact⟨by omega,e3⟩
theorem IZ (n:Int)(h1:1<=n)(h2:n<=4):iR anchorNames (pick anchorNames n)=n/\bM (pick anchorNames n)=true:=by
 obtain⟨s,e1,e2,e3⟩:=QS ⟨(n - 1).toNat,by omega⟩;have:pick anchorNames n=s:=by unfold pick;rw[if_neg (by omega)];simp only at e1;rw[e1];rfl
 rw[this];simp only at e2;exact⟨by omega,e3⟩
section
variable (gl:Gl) (s:PS) (r:List B)
theorem Ot:stmt gl s (jK::r)=lM s r:=by simp[stmt]
theorem Oq:stmt gl s (oW::r)=qZ s r:=by simp[stmt]
theorem IJ:stmt gl s (iM::r)=kU s r:=by simp[stmt]
theorem Td:stmt gl s (kF::r)=zX s r:=by simp[stmt]
theorem Pj:stmt gl s (mX::r)=qW s r:=by simp[stmt]
theorem VO:stmt gl s (sH::r)=iZ gl s r:=by simp[stmt]
theorem Lp:stmt gl s (dM::r)=gq gl s r:=by simp[stmt]
theorem ES:stmt gl s (eX::r)=gK s r:=by simp[stmt]
theorem OH:stmt gl s (mY::r)=ou gl s r:=by simp[stmt]
theorem II:stmt gl s (jd::r)=iJ s r:=by simp[stmt]
theorem LV:stmt gl s (kC::r)=lC s r:=by simp[stmt]
theorem OY:stmt gl s (kP::r)=oz s r:=by simp[stmt]
theorem O4:stmt gl s (pq::r)=qO gl s r:=by simp[stmt]
theorem Ik:stmt gl s (fH::r)=fV s r:=by simp[stmt]
theorem Px:stmt gl s (dF::r)=ed gl s r:=by simp[stmt]
theorem EX:stmt gl s (iw::r)=kK s r:=by simp[stmt]
end
theorem FY {gl:Gl}{gs:List ahR}(h:aiy gl gs)(kind:Int)(r:aii)(hr:OkR gs.length kind r):∀w∈outW gs kind r,w≠[47]/\w≠[62]/\bM w=true:=by
 have num:∀(n:Int),ag n≠[47]/\ag n≠[62]/\bM (ag n)=true:=fun n=>⟨fun e=>by
  have:=pO n 47 (by rw[e];simp)
  revert this
  decide,fun e=>by
  have:=pO n 62 (by rw[e];simp)
  revert this
  decide,qF n⟩
 intro w hw;unfold outW at hw;split at hw
 ·rw[akQ] at hw;obtain⟨n,hn,rfl⟩:=hw;have h1:=(xK h (hr.out n hn)).2;have:=Fj h1;exact⟨this.2.2.1,this.2.2.2,pK h1⟩
 split at hw
 ·rw[akQ] at hw;obtain⟨c,hc,rfl⟩:=hw;have Rt:(58:UInt8)∈ag c.at'++58::ag c.lookup:=by simp
  refine⟨fun e=> ?_,fun e=> ?_,(Ie c (hr.calls c hc) 0).2.2.2⟩
  ·rw[e] at Rt;revert Rt;decide
  rw[e] at Rt;revert Rt;decide
 split at hw
 ·simp only[akm] at hw;subst hw;exact num r.x
 simp at hw
def BR (gs:List ahR)(ws:List B)(l:List (List Int)):Prop:=(∀w∈ws,w≠[47]/\w≠[62])/\eG ws=some (l.map (fun s=>s.map (bV gs)))
theorem Uf {gl:Gl}{gs:List ahR}(h:aiy gl gs)(hn:gs.length<=1000)(s:PS)(lk:Lookup)(hl:s.f.ahP.getLast? =some lk)(hk:1<=lk.kind/\lk.kind<=8)(r:aii)(hr:OkR gs.length lk.kind r)
  (u0 u1 u2:List B) (h0:BR gs u0 r.back) (h1:BR gs u1 r.in') (h2:BR gs u2 r.ahead):
  ed gl s (u0++[47]::u1++[47]::u2++[62]::outW gs lk.kind r)= .ok (jC s fun lk=> {lk with rules:=lk.rules++[r]}):=by
 have hi:∀l:List (List Int),(∀x∈l,OkS gs.length x)->(∀x∈l,∀n∈x,In gs.length n)/\(∀x∈l,(∀n∈x,In gs.length n)/\x.length<=1000)/\l.map setOf=l:=fun l hl=>by
  refine⟨fun x hx=>(hl x hx).2,fun x hx=>⟨(hl x hx).2,nt (Oj (hl x hx)) hn⟩,?_⟩
  conv=>rhs;rw[<-List.map_id l]
  exact List.map_congr_left (fun x hx=>JA x (hl x hx).1)
 obtain⟨a1,a2,a3⟩:=hi _ hr.back;obtain⟨b1,b2,b3⟩:=hi _ hr.in';obtain⟨c1,c2,c3⟩:=hi _ hr.ahead;have hp:oP (u0++[47]::u1++[47]::u2++[62]::outW gs lk.kind r)=some [u0,u1,u2,outW gs lk.kind r]:=WS _ _ _ _ h0.1 h1.1 h2.1 (fun w hw=>⟨(FY h _ r hr w hw).1,(FY h _ r hr w hw).2.1⟩);unfold ed;simp only[hl,hp,h0.2,h1.2,h2.2,uC h s.cls _ a2,uC h s.cls _ b2,uC h s.cls _ c2,aks,a3,b3,c3];clear h0 h1 h2 hp;obtain⟨q1,q2⟩:=YW h r.out hr.out 0;obtain⟨d1,d2,d3,-⟩:=Pz r.calls hr.calls 0;have x1:=gU r.x hr.x 0;have x2:=(eu r.x hr.x).2;have hcases:lk.kind=1\/lk.kind=2\/lk.kind=3\/lk.kind=4\/lk.kind=5\/lk.kind=6\/lk.kind=7\/lk.kind=8:=by omega
 have hone:=hr.one;have EM:=hr.outs;have zy:=hr.noC;have zL:=hr.noX;have hin:=hr.in';cases r with
 |mk rb ri ra ro rc rx=>
 simp only at*
 rcases hcases with e|e|e|e|e|e|e|e<;>rw[e] at hone EM zy zL ⊢
 case inl=>obtain⟨t,rfl,ht⟩:=hone (by simp);have hs:=(hin t (by simp)).1;simp[dY,outW,q1,q2,AB t ro hs ht,zy,zL]
 case inr.inl=>simp[dY,outW,q1,q2,zy,zL]
 case inr.inr.inl=>simp[dY,outW,q1,q2,zy,zL]
 case inr.inr.inr.inl=>have:=EM (by simp);subst this;simp[dY,outW,d1,d2,d3,zL]
 case inr.inr.inr.inr.inl=>obtain⟨t,rfl,ht⟩:=hone (by simp);have hs:=(hin t (by simp)).1;simp[dY,outW,q1,q2,AB t ro hs ht,zy,zL]
 case inr.inr.inr.inr.inr.inl=>have:=EM (by simp);subst this;simp[dY,outW,fB,x1,x2,zy]
 case inr.inr.inr.inr.inr.inr.inl=>have:=EM (by simp);subst this;simp[dY,outW,zy,zL]
 case inr.inr.inr.inr.inr.inr.inr=>have:=EM (by simp);subst this;simp[dY,outW,zy,zL]
theorem Xp {gl:Gl}{gs:List ahR}(h:aiy gl gs)(l:List (List Int))(hl:∀s∈l,∀n∈s,In gs.length n):BR gs (bJ gs l) l:=⟨fun w hw=>⟨(yt h _ hl w hw).1,(yt h _ hl w hw).2.1⟩,Vx h _ hl⟩
end
section
open Go.RowKit
theorem Tm {w:World}{l:List (String×DataW Unit)}(h:laidMet Tryz.prog l w)
  (m1:("fleuron/unparse.opNames",Rows.laid_fleuron_unparse_opNames)∈l) (m2:("fleuron/unparse.anchorNames",Rows.laid_fleuron_unparse_anchorNames)∈l) (m3:("fleuron/unparse.lookupNames",Rows.laid_fleuron_unparse_lookupNames)∈l)
  (m4:("internal/strconv.uint64pow10",Rows.laid_internal_strconv_uint64pow10)∈l):Tabs w:=
 ⟨qm (jy h m1) (by kernel_rfl) (by kernel_rfl) Tryz.underlying144 Tryz.underlying9 (by kernel_rfl) (by kernel_rfl),
 qm (jy h m2) (by kernel_rfl) (by kernel_rfl) Tryz.underlying205 Tryz.underlying9 (by kernel_rfl) (by kernel_rfl),
 qm (jy h m3) (by kernel_rfl) (by kernel_rfl) Tryz.underlying206 Tryz.underlying9 (by kernel_rfl) (by kernel_rfl),
 Ue (k:= .u64) (zs:=Lib.pow10Tab) (jy h m4) (by kernel_rfl) (by kernel_rfl) Tryz.underlying267 Tryz.underlying146 (by kernel_rfl) (by kernel_rfl)⟩
theorem UX {w:World}{l:List (String×DataW Unit)}(h:laidMet Tryz.prog l w)(m1:("math/bits.deBruijn64tab",Rows.laid_math_bits_deBruijn64tab)∈l):nG≤w.heap.size:=
 TB (jy h m1) (by kernel_rfl)
theorem rZ (w:World)(s:B)(c:UInt8):Calls Tryz.prog 167 #[.string ⟨s.toArray⟩,.string ⟨#[c]⟩] w fun e w'=>e= .returned (.int .i64 ((Lib.countByte s c:Nat):Int))/\w=w':=(Tryz.strings_Count_one ⟨s.toArray⟩ c w).mono fun _ _ ⟨h1,h2⟩=>⟨h1,h2.symm⟩
theorem yf (w:World)(s:B)(c:UInt8):Calls Tryz.prog 162 #[.string ⟨s.toArray⟩,.string ⟨#[c]⟩] w fun e w'=>e= .returned (.int .i64 (Lib.indexByte s c))/\w=w':=(Tryz.strings_Index_one ⟨s.toArray⟩ c w).mono fun _ _ ⟨h1,h2⟩=>⟨h1,h2.symm⟩
def KU (t:B):Bool:=decide (t.count 58<=1)
def BL (t:B):Bool:=t.count 58==1
theorem PW (w:World)(t:B):Calls Tryz.prog 166 #[.string ⟨t.toArray⟩] w fun e w'=>e= .returned (.bool (KU t))/\w=w':=by
 have hd:Hid (decide (((Lib.countByte t 58:Nat):Int)<=1)=KU t):=by show _=_;rw[KU,Lib.countByte];exact decide_eq_decide.2 (by omega)
 go_enter Tryz.func166,Tryz.ntmps166
 go_wp2_with (go_at_call 167;refine(rZ _ t 58).mono ?_;rintro e w' ⟨rfl,rfl⟩)
 go_ret
 exact⟨by rw[<-hd.out];simp,rfl⟩
theorem LC (w:World)(t:B):Calls Tryz.prog 186 #[.string ⟨t.toArray⟩] w fun e w'=>e= .returned (.bool (BL t))/\w=w':=by
 have hd:Hid ((((Lib.countByte t 58:Nat):Int)==1)=BL t):=by show _=_;rw[BL,Lib.countByte,Bool.eq_iff_iff,beq_iff_eq,beq_iff_eq];omega
 go_enter Tryz.func186,Tryz.ntmps186
 go_wp2_with (go_at_call 167;refine(rZ _ t 58).mono ?_;rintro e w' ⟨rfl,rfl⟩)
 go_ret
 exact⟨by rw[<-hd.out];try simp,rfl⟩
theorem WF (s:B)(c:UInt8):c ∉ cO c s:=by
 induction s with
 |nil=>simp[cO]
 |cons d r ih=>
  by_cases hd:d=c
  ·subst hd;simp[cO]
  have:cO c (d::r)=d::cO c r:=by show List.takeWhile (· !=c) (d::r)=_;rw[List.takeWhile_cons_of_pos (p:=fun x=>x !=c) (by simpa using hd)];rfl
  rw[this,akx];rintro(e|e)
  ·exact hd e.symm
  exact ih e
theorem YV (s:B)(c:UInt8)(h:hasB c s=true):s.idxOf c=(cO c s).length:=by
 obtain⟨h1,h2⟩:=Lc s c h;have hn:=WF s c
 conv=>lhs;rw[h2]
 rw[List.idxOf_append,if_neg hn];simp
theorem Jn (w:World)(t:B)(ht:t.length<=800000000):Calls Tryz.prog 170 #[.string ⟨t.toArray⟩] w fun e w'=>e= .returned (.bool (lu t))/\w=w':=by
 have hge:=Lib.indexByte_ge t 42;by_cases hc:Lib.countByte t 44=1
 ·have hc1:t.count 44=1:=hc;cases hs:hasB 42 t with
  |false=>
   have hi:=hd0 (Yh t 42 hs);have hp:Hid (lu t=true):=by show _=_;have:t.contains 42=false:=hs;rw[lu,hc1,this];rfl
   have HC:=hd0 hc;clear hc hc1 hs hge ht;go_enter Tryz.func170,Tryz.ntmps170
   go_wp2_with (first
    |(go_at_call 162;refine(yf _ t 42).mono ?_;rintro e w' ⟨rfl,rfl⟩;rw[hi.out])
    |(go_at_call 167;refine(rZ _ t 44).mono ?_;rintro e w' ⟨rfl,rfl⟩;rw[HC.out]))
   go_ret
   exact⟨by rw[hp.out];rfl,rfl⟩
  |true=>
   obtain⟨h1,h2⟩:=Lc t 42 hs;have hi:=hd0 h1;have hx:=YV t 42 hs;have hlt:(cO 42 t).length<t.length:=by
    conv=>rhs;rw[h2]
    simp
   have HC:=hd0 hc;have hcon:t.contains 42=true:=hs;by_cases he:(cO 42 t).length+1=t.length
   ·have hp:Hid (lu t=true):=by
     show _=_;rw[lu,hc1,hcon,hx];simp;omega
    have e1:(((cO 42 t).length:Int)==(t.length:Int) - 1)=true:=by simp;omega
    clear hc hc1 hs h1 h2 hx hge he hcon;generalize (cO 42 t).length=a at*
    go_enter Tryz.func170,Tryz.ntmps170
    go_wp2_with (first
     |(go_at_call 162;refine(yf _ t 42).mono ?_;rintro e w' ⟨rfl,rfl⟩;rw[hi.out])
     |(go_at_call 167;refine(rZ _ t 44).mono ?_;rintro e w' ⟨rfl,rfl⟩;rw[HC.out]))
    go_ret
    exact⟨by rw[hp.out];rfl,rfl⟩
   have hp:Hid (lu t=false):=by show _=_;rw[lu,hc1,hcon,hx];simp;omega
   have e1:(((cO 42 t).length:Int)==(t.length:Int) - 1)=false:=by simp;omega
   clear hc hc1 hs h1 h2 hx hge he hcon;generalize (cO 42 t).length=a at*
   go_enter Tryz.func170,Tryz.ntmps170
   go_wp2_with (first
    |(go_at_call 162;refine(yf _ t 42).mono ?_;rintro e w' ⟨rfl,rfl⟩;rw[hi.out])
    |(go_at_call 167;refine(rZ _ t 44).mono ?_;rintro e w' ⟨rfl,rfl⟩;rw[HC.out]))
   go_ret
   exact⟨by rw[hp.out];rfl,rfl⟩
 have hp:Hid (lu t=false):=by
  show _=_;have:(t.count 44==1)=false:=by simpa [Lib.countByte] using hc
  rw[lu,this];rfl
 have e1:(((Lib.countByte t 44:Nat):Int)==1)=false:=by simp;omega
 clear hc;generalize Lib.indexByte t 42=z at*
 go_enter Tryz.func170,Tryz.ntmps170
 go_wp2_with (first
  |(go_at_call 162;refine(yf _ t 42).mono ?_;rintro e w' ⟨rfl,rfl⟩)
  |(go_at_call 167;refine(rZ _ t 44).mono ?_;rintro e w' ⟨rfl,rfl⟩))
 go_ret
 exact⟨by rw[hp.out];rfl,rfl⟩
theorem rU {ws:List P3}{k:Nat}{x y:Int}{z:B}(h:ws[k]? =some (x,y,z)):(x,y,z)∈ws:=akt h
theorem WQ (ws:List P3)(pr:B->Bool)(k:Nat)(x y:Int)(z:B)(h:ws[k]? =some (x,y,z))(ha:(ws.take k).all (fun x=>pr x.2.2)=true):(ws.take (k+1)).all (fun x=>pr x.2.2)=pr z:=by obtain⟨hk,hg⟩:=akn.1 h;rw[akB hk,List.all_append,ha,hg];simp
theorem acb (ws:List P3)(pr:B->Bool)(k:Nat)(x y:Int)(z:B)(h:ws[k]? =some (x,y,z))(hz:pr z=false):ws.all (fun x=>pr x.2.2)=false:=by rw[List.all_eq_false];exact⟨_,akt h,by simpa using hz⟩
theorem ww (F:Nat)(pr:B->Bool)(hE:∀(args:Array Value) (w:World),(callFunc F args).run Tryz.prog w= .ok (.enter F args) w)(hF:∀(w:World) (t:B),t.length<=800000000->Calls Tryz.prog F #[.string ⟨t.toArray⟩] w fun e w'=>e= .returned (.bool (pr t))/\w=w')
  (w:World) (A:Option Addr) (n c:Nat) (ws:List P3) (hr:RdT w 124 A n 3 (dA ws)) (hl:∀x∈ws,x.2.2.length<=800000000) (hn:n<=1000000000):
  Calls Tryz.prog 165 #[.slice A n c,.func (.func F) #[] #[]] w fun e w'=>e= .returned (.bool (ws.all (fun x=>pr x.2.2)))/\Below w.heap.size w w':=by
 have hwl:=hd0 hr.rd.aiE;go_enter Tryz.func165,Tryz.ntmps165
 go_wp2;go_loopw [9] (fun i wr=>∃k:Nat,k<=n/\i= .int .i64 k/\Hid ((ws.take k).all (fun x=>pr x.2.2)=true)/\Below w.heap.size w wr) (fun i _=>n - (intOf i).toNat)
 case atStart=>exact⟨0,nz _,rfl,rfl,akl _ _⟩
 case round=>
  obtain⟨k,hk,rfl,hall,hbl⟩:=hrel;by_cases hlt:k<n
  ·obtain⟨b,o,x,y,z,rfl,hbB,hp,q1,q2,q3⟩:=(hr.below hbl).rd.at3 hlt;have hz:z.length<=800000000:=hl _ (rU hp.out);have hF1:=hd0 (fun w=>hF w z hz);cases hpr:pr z with
   |true=>
    have hs:=hd0 ((WQ ws pr k x y z hp.out hall.out).trans hpr);have hpr:=hd0 hpr;clear hz hp hall hF hl;go_wp2_with (refine(hF1.out _).mono ?_;rintro e w' ⟨rfl,rfl⟩;rw[hpr.out])
    go_roundw
    case rel=>exact⟨k+1,by omega,by simp,hs.out,hbl.alloc hbl.size _⟩
    case measure=>simp[intOf];omega
   |false=>
    have hs:=hd0 (acb ws pr k x y z hp.out hpr);have hpr:=hd0 hpr;clear hz hp hall hF hl;go_wp2_with (refine(hF1.out _).mono ?_;rintro e w' ⟨rfl,rfl⟩;rw[hpr.out])
    go_ret
    exact⟨by rw[hs.out];rfl,hbl.alloc hbl.size _⟩
  obtain rfl:k=n:=by omega
  have hs:Hid (ws.all (fun x=>pr x.2.2)=true):=by
   show _=_;have:=hall.out
   rwa [akE (by rw[hwl.out];exact nr _)] at this
  go_wp2;go_ret
  exact⟨by rw[hs.out];rfl,hbl⟩
theorem IG (w:World)(A:Option Addr)(n c:Nat)(ws:List P3)(hr:RdT w 124 A n 3 (dA ws))(hl:∀x∈ws,x.2.2.length<=800000000)(hn:n<=1000000000):
  Calls Tryz.prog 125 #[.slice A n c] w fun e w'=>e= .returned (.bool (ws.all (fun x=>KU x.2.2)))/\Below w.heap.size w w':=by
 have hc:=hd0 (ww 166 KU (fun _ _=>enters_of Tryz.func166 (by kernel_rfl) rfl _ _) (fun w t _=>PW w t) w A n c ws hr hl hn);clear hr hl hn;go_enter Tryz.func125,Tryz.ntmps125
 go_wp2_with (go_at_call 165;refine hc.out.mono ?_;rintro e w' ⟨rfl,hb⟩)
 go_ret
 exact⟨rfl,hb⟩
theorem Np (w:World)(A:Option Addr)(n c:Nat)(ws:List P3)(hr:RdT w 124 A n 3 (dA ws))(hl:∀x∈ws,x.2.2.length<=800000000)(hn:n<=1000000000):
  Calls Tryz.prog 172 #[.slice A n c] w fun e w'=>e= .returned (.bool (ws.all (fun x=>BL x.2.2)))/\Below w.heap.size w w':=by
 have hc:=hd0 (ww 186 BL (fun _ _=>enters_of Tryz.func186 (by kernel_rfl) rfl _ _) (fun w t _=>LC w t) w A n c ws hr hl hn);clear hr hl hn;go_enter Tryz.func172,Tryz.ntmps172
 go_wp2_with (go_at_call 165;refine hc.out.mono ?_;rintro e w' ⟨rfl,hb⟩)
 go_ret
 exact⟨rfl,hb⟩
theorem KY (w:World)(A:Option Addr)(n c:Nat)(ws:List P3)(hr:RdT w 124 A n 3 (dA ws))(hl:∀x∈ws,x.2.2.length<=800000000)(hn:n<=1000000000):
  Calls Tryz.prog 130 #[.slice A n c] w fun e w'=>e= .returned (.bool (ws.all (fun x=>lu x.2.2)))/\Below w.heap.size w w':=by
 have hc:=hd0 (ww 170 lu (fun _ _=>enters_of Tryz.func170 (by kernel_rfl) rfl _ _) (fun w t ht=>Jn w t ht) w A n c ws hr hl hn);clear hr hl hn;go_enter Tryz.func130,Tryz.ntmps130
 go_wp2_with (go_at_call 165;refine hc.out.mono ?_;rintro e w' ⟨rfl,hb⟩)
 go_ret
 exact⟨rfl,hb⟩
end
section
open Go.RowKit Go.Sort
theorem Y2 (n:Int):(kL n).length<=6:=by
 unfold kL pick;split
 ·simp
 have:∀s∈opNames,s.length<=6:=by decide
 cases h:opNames[(n - 1).toNat]? with
 |none=>simp
 |some s=>exact this s (akt h)
theorem Sr (x:Ins)(h:x.a=0):dw x=kL x.op:=by simp[dw,h]
theorem SS (x:Ins)(h:x.a≠0):dw x=kL x.op++58::ag x.a:=by simp[dw,h]
theorem vM (w:World)(A:Option Addr)(c:Nat)(l:List Ins)(hT:Tabs w)(hA:Sl ah5 2 w (FT w) A l)(hl:l.length<=100000000000):
  Calls Tryz.prog 45 #[.slice A l.length c] w (fM w (l.map dw)):=by
 go_enter Tryz.func45,Tryz.ntmps45
 go_wp2;go_loopw [3,9] (fun v i wr=>∃k:Nat,k<=l.length/\i= .int .i64 k/\aix w ((l.take k).map dw) v wr) (fun _ i _=>l.length - (intOf i).toNat)
 case atStart=>exact⟨0,nz _,rfl,by simpa using aix.nil w⟩
 case round=>
  obtain⟨k,hk,rfl,A3,c3,rfl,hown,hbl⟩:=hrel;have hlk:((l.take k).map dw).length=k:=by simp;omega
  by_cases hlt:k<l.length
  ·obtain⟨b,o,x,rfl,-,hx,q0,q1,r0,r1⟩:=((KP.below hbl).sl ah5.ok hA).ins hlt;have HS:=hd0 (lY dw l k x hx.out);have HL:=hd0 hlk;generalize hws:(l.take k).map dw=ws at*
   have s0:=hbl.size;have hll:ws.length<=1000000000000:=by rw[HL.out];omega
   have hb0:Below wr.heap.size wr (wr.alloc (.cells #[.int .i64 x.op,.int .i64 x.a] 61)):=(akl _ _).alloc (nr _) _;have hT1:Tabs (wr.alloc (.cells #[.int .i64 x.op,.int .i64 x.a] 61)):=(hT.all hbl).all hb0;have ho:=hd0 (Jr _ x.op hT1);have hn:=hd0 (aS _ x.a hT1 r1);have Hb0:=hd0 hb0;have hol:=Y2 x.op;have hil:=rH r1;by_cases h0:x.a=0
   ·have HI:=hd0 (Sr x h0);have e1:(x.a==0)=true:=by simp[h0]
    have e2:(x.a !=0)=false:=by simp[h0]
    clear hb0 hx r0 r1 hws hlk hT1 h0 hn;go_wp2_with (first
     |(go_at_call 37;refine ho.out.mono ?_;rintro e w' ⟨rfl,rfl⟩)
     |(at_builtin;refine IR rfl (.tmp 25) (.tmp 27) rfl _ (wr.heap.size+1) (World.size_alloc _ _) w.heap.size ws.length c3 A3 (strs ws) (kL x.op) rfl rfl (hown.alloc _) hll (by simp;omega) ?_;intro A4 c4 w2 ho2 hg2))
    go_roundw
    case rel=>exact⟨k+1,by omega,by simp,aix.next hbl Hb0.out hown (us:=[kL x.op]) ho2 hg2 (by rw[HS.out,HI.out])⟩
    case measure=>simp[intOf];omega
   have HI:=hd0 (SS x h0);have e1:(x.a==0)=false:=by simp[h0]
   have e2:(x.a !=0)=true:=by simp[h0]
   have a1:(ByteArray.mk #[58])++⟨(ag x.a).toArray⟩=⟨(58::ag x.a).toArray⟩:=oQ [58] _;have a2:(ByteArray.mk (kL x.op).toArray)++⟨(58::ag x.a).toArray⟩=⟨(kL x.op++58::ag x.a).toArray⟩:=oQ _ _;clear hb0 hx r0 r1 hws hlk hT1 h0;go_wp2_with (first
    |(go_at_call 37;refine ho.out.mono ?_;rintro e w' ⟨rfl,rfl⟩)
    |(go_at_call 42;refine hn.out.mono ?_;rintro e w1 ⟨rfl,hb1⟩;have hb2:Below wr.heap.size wr w1:=Hb0.out.trans (hb1.mono Hb0.out.size);have s1:=hb2.size)
    |(at_builtin;refine bD rfl (.tmp 25) (.tmp 27) rfl _ w.heap.size ws.length c3 A3 (strs ws) (kL x.op++58::ag x.a) rfl rfl (own_below hown hb2) hll (by omega) ?_;intro A4 c4 w2 ho2 hg2))
   go_roundw
   case rel=>exact⟨k+1,by omega,by simp,aix.next hbl hb2 hown (us:=[kL x.op++58::ag x.a]) ho2 hg2 (by rw[HS.out,HI.out])⟩
   case measure=>simp[intOf];omega
  obtain rfl:k=l.length:=by omega
  have HL:Hid ((l.take l.length).map dw=l.map dw):=by show _=_;rw[akr]
  generalize hws:(l.take l.length).map dw=ws at*
  clear hws hlk;go_wp2;go_ret
  rw[<-HL.out];exact⟨A3,c3,rfl,hown,hbl⟩
theorem We (gs:List ahR)(n:Int):setW gs [n]=[bV gs n]:=rfl
theorem Il (gs:List ahR)(l:List Int)(h:l.length≠1):setW gs l=[91]::l.map (bV gs)++[[93]]:=by
 unfold setW;split
 ·simp at h
 rfl
theorem LH {α:Type}(f:α->List B)(l:List α)(k:Nat):((l.take k).flatMap f).length<=(l.flatMap f).length:=by
 conv=>rhs;rw[<-akS k l]
 simp only[akT,la];omega
theorem Cm {α:Type}(f:α->List B)(l:List α)(k:Nat)(x:α)(h:l[k]? =some x):((l.take k).flatMap f).length+(f x).length<=(l.flatMap f).length:=by have:=LH f l (k+1);rw[bH f l k x h,la] at this;exact this
theorem Eh (w:World)(g:Nat)(gs:List ahR)(A:Option Addr)(c:Nat)(l:List (List Int))(hT:Tabs w)(hP:PN w g gs)(hgl:gs.length<=1000000000000)(hA:Sl ahV 1 w (FT w) A l)(hl:l.length<=100000000000)(hsl:(bJ gs l).length<=10000000000):
  Calls Tryz.prog 146 #[.pointer (some ⟨g,0,none⟩),.slice A l.length c] w (fM w (bJ gs l)):=by
 go_enter Tryz.func146,Tryz.ntmps146
 go_wp2;go_loopw [5,10] (fun v i wr=>∃k:Nat,k<=l.length/\i= .int .i64 k/\aix w ((l.take k).flatMap (setW gs)) v wr) (fun _ i _=>l.length - (intOf i).toNat)
 case atStart=>exact⟨0,nz _,rfl,by simpa using aix.nil w⟩
 case round=>
  obtain⟨k,hk,rfl,A3,c3,rfl,hown,hbl⟩:=hrel;by_cases hlt:k<l.length
  ·obtain⟨b,o,x,A1,c1,rfl,-,hx,q9,hA0⟩:=hA.row hlt;have q0:=ae hbl q9;have hA1:=(KP.below hbl).sl ahT.ok hA0;have HS:=hd0 (bH (setW gs) l k x hx.out);have hwl:=Cm (setW gs) l k x hx.out;have hl2:(l.flatMap (setW gs)).length<=10000000000:=hsl;generalize hws:(l.take k).flatMap (setW gs)=ws at*
   have s0:=hbl.size;by_cases h1:x.length=1
   ·obtain⟨n,rfl⟩:∃n,x=[n]:=by
     match x,h1 with
     |[n],_=>exact⟨n,rfl⟩
    obtain⟨b1,o1,y,rfl,-,hy,q1,r1⟩:=hA1.int (k:=0) (by simp);obtain rfl:n=y:=by have:=hy.out;simpa using this
    rw[Nat.add_zero] at q1;have hn:=hd0 (xG wr g gs n (hT.all hbl) r1 (hP.below hbl) hgl);have hll:ws.length<=1000000000000:=by omega
    clear hx hws hA1 h1 hy r1 hwl hl2;simp only[aF,ln,ak3] at q0;go_wp2_with (first
     |(go_at_call 47;refine hn.out.mono ?_;rintro e w1 ⟨rfl,hb1⟩;have s1:=hb1.size)
     |(at_builtin;refine bD rfl (.tmp 17) (.tmp 23) rfl w1 w.heap.size ws.length c3 A3 (strs ws) (bV gs n) rfl rfl (own_below hown hb1) hll (by omega) ?_;intro A4 c4 w2 ho2 hg2))
    go_roundw
    case rel=>exact⟨k+1,by omega,by simp,aix.next hbl hb1 hown (us:=[bV gs n]) ho2 hg2 (by rw[HS.out,We])⟩
    case measure=>simp[intOf];omega
   have HW:=hd0 (Il gs x h1);have hxl:ws.length+x.length+2<=10000000000:=by rw[HW.out] at hwl;simp only[la,aF,aks,ln] at hwl;omega
   have e1:(x.length==1)=false:=by simpa using h1
   have e2:((x.length:Int)==1)=false:=by simp;omega
   have hN0:aiG w ws ws.length A3 c3 wr:=⟨rfl,hown,hbl⟩
   clear hx hws hwl hl2 h1 hA1 q9;go_wp2_with (first
    |(at_builtin;refine bD rfl (.tmp 25) (.tmp 26) rfl wr w.heap.size ws.length c3 A3 (strs ws) [91] rfl rfl hown (by omega) (by omega) ?_;intro A4 c4 w2 ho2 hg2;have SA:=hN0.next (us:=[[91]]) (akl _ _) ho2 hg2;have hb2:=SA.2.2;have s2:=hb2.size)
    |(go_at_call 147;refine(Kq w2 g gs A1 c1 x (hT.all hb2) (hP.below hb2) hgl ((KP.below hb2).sl ahT.ok hA0) (by omega)).mono ?_;rintro e w3 ⟨A5,c5,rfl,ho3,hb3⟩;have s3:=hb3.size;have nC:=gz ho3 (aks (bV gs)))
    |(at_builtin;refine fG rfl (.tmp 28) (.tmp 31) rfl w3 w.heap.size (ws.length+1) c4 A4 _ w3.heap.size A5 x.length c5 (x.map (bV gs)) rfl rfl (own_below ho2 hb3) nC (by omega) (by omega) ?_;intro A6 c6 w4 fD hg4;have Dp:=SA.next (us:=x.map (bV gs)) hb3 (by rw[yE];exact fD) hg4;have s4:=Dp.2.2.size)
    |(at_builtin;refine bD rfl (.tmp 33) (.tmp 34) rfl w4 w.heap.size _ c6 A6 _ [93] rfl rfl fD (by omega) (by omega) ?_;intro A7 c7 w5 vH hg5;have hN5:=Dp.next (us:=[[93]]) (akl _ _) (by rw[yE,yE];exact vH) hg5))
   go_roundw
   case rel=>exact⟨k+1,by omega,by simp,by rw[HS.out,HW.out];simpa using hN5.s⟩
   case measure=>simp[intOf];omega
  obtain rfl:k=l.length:=by omega
  have HL:Hid ((l.take l.length).flatMap (setW gs)=bJ gs l):=by show _=_;rw[akr];rfl
  generalize hws:(l.take l.length).flatMap (setW gs)=ws at*
  clear hws;go_wp2;go_ret
  rw[<-HL.out];exact⟨A3,c3,rfl,hown,hbl⟩
end
end Go.Proofs.YtkijckccfookeaaGreatDoor
