/- Lemmas. -/
import Derived.Test.YtkijckccfookeaaGreatDoorV00
import Derived.RangeFuncBox
import Derived.Lib.ItoaNum
import Derived.Test.YtkijckccfookeaaGreatDoorProg
import Derived.Lib.MinMax
import Derived.WalkSpells
import Derived.BigQuiet
import Derived.Lib.IndexLaws
set_option linter.unusedVariables false
set_option linter.unusedSimpArgs false
set_option maxRecDepth 100000
set_option maxHeartbeats 32000000
namespace Go.Proofs.YtkijckccfookeaaGreatDoor
section
open Go.RowKit
def Bk (w:World)(g:Nat)(t:TypeId)(cs:Array Value):Prop:=w.heap[g]? =some (.cells cs t (0,0))
theorem Bk.cell {w:World}{g:Nat}{t:TypeId}{cs:Array Value}(h:Bk w g t cs)(i:Nat):w.cell? ⟨g,i,none⟩=cs[i]? :=by unfold Bk at h;simp[World.cell?,h]
theorem Bk.frozen {w:World}{g:Nat}{t:TypeId}{cs:Array Value}(h:Bk w g t cs)(i:Nat):w.frozen? ⟨g,i,none⟩=false:=by unfold Bk at h;simp[World.frozen?,h]
theorem Bk.lt {w:World}{g:Nat}{t:TypeId}{cs:Array Value}(h:Bk w g t cs):g<w.heap.size:=(aqo.1 h).1
theorem Bk.alloc {w:World}{g:Nat}{t:TypeId}{cs:Array Value}(h:Bk w g t cs)(o:Obj):Bk (w.alloc o) g t cs:=(Below.heap_alloc w o g h.lt).trans h
theorem Bk.set {w:World}{g:Nat}{t:TypeId}{cs:Array Value}(h:Bk w g t cs)(i:Nat)(u:Value):Bk (w.setCell ⟨g,i,none⟩ u) g t (cs.setIfInBounds i u):=by unfold Bk at h ⊢;simp[World.setCell,Array.getElem?_modify,h]
theorem Bk.far {w:World}{g:Nat}{t:TypeId}{cs:Array Value}(h:Bk w g t cs){p:Addr}(hp:g≠p.block)(u:Value):Bk (w.setCell p u) g t cs:=(Below.heap_setCell w p u g hp).trans h
theorem Bk.drew {w:World}{g:Nat}{t:TypeId}{cs:Array Value}(h:Bk w g t cs):Bk w.drew g t cs:=h
theorem Rd.new (w:World)(cs:Array Value)(t:TypeId)(n size:Nat)(h:cs.size=n*size):Rd (w.alloc (.cells cs t)) (w.heap.size+1) (some ⟨w.heap.size,0,none⟩) n size cs.toList:=
 ⟨by simpa using h,fun _=>⟨_,_,rfl,by omega,fun j u hu=>by
  have h1:(w.alloc (.cells cs t)).heap[w.heap.size]? =some (.cells cs t):=heap_alloc_new w _;have:=World.news_of_block h1 j u hu
  rwa [addr_add] at this⟩⟩
theorem Rd.newAt (w:World)(h:Nat)(hh:w.heap.size=h)(cs:Array Value)(t:TypeId)(n size:Nat)(hs:cs.size=n*size):Rd (w.alloc (.cells cs t)) (h+1) (some ⟨h,0,none⟩) n size cs.toList:=by subst hh;exact Rd.new w cs t n size hs
def RdT (w:World)(t:TypeId)(A:Option Addr)(n size:Nat)(cs:List Value):Prop:=cs.length=n*size/\(0<n->∃b o cur,A=some ⟨b,o,none⟩/\Bk w b t cur/\∀j u,cs[j]? =some u->cur[o+j]? =some u)
theorem RdT.rd {w:World}{t:TypeId}{A:Option Addr}{n size:Nat}{cs:List Value}(h:RdT w t A n size cs):Rd w w.heap.size A n size cs:=
 ⟨h.1,fun hn=>by
  obtain⟨b,o,cur,e,hb,hc⟩:=h.2 hn;exact⟨b,o,e,hb.lt,fun j u hu=>by rw[hb.cell];exact hc j u hu⟩⟩
theorem RdT.below {w w':World}{t:TypeId}{A:Option Addr}{n size:Nat}{cs:List Value}(h:RdT w t A n size cs)(hb:Below w.heap.size w w'):RdT w' t A n size cs:=
 ⟨h.1,fun hn=>by
  obtain⟨b,o,cur,e,hb',hc⟩:=h.2 hn;exact⟨b,o,cur,e,(hb.block b hb'.lt).trans hb',hc⟩⟩
theorem RdT.grown {w w':World}{t:TypeId}{A:Option Addr}{n size:Nat}{cs:List Value}{row:Option Nat}(h:RdT w t A n size cs)(hg:w.grownBy w' row)(hr:∀g,row=some g->∃cur t',Bk w g t' cur/\t≠t'):RdT w' t A n size cs:=
 ⟨h.1,fun hn=>by
  obtain⟨b,o,cur,e,hb',hc⟩:=h.2 hn;refine⟨b,o,cur,e,(hg.block b hb'.lt (fun e=> ?_)).trans hb',hc⟩;obtain⟨cur',t',hk,hne⟩:=hr b e.symm;have hb2:w.heap[b]? =_:=hb';have hk2:w.heap[b]? =_:=hk;rw[hb2] at hk2;injection hk2 with h1
  injection h1 with _ h2
  exact hne h2⟩
theorem jK {w:World}{base:Nat}{e:TypeId}{size:Nat}{v:Value}{n:Nat}{xs:List Value}(h:w.ownsRow base e size v n xs):∀g,v.ownBlock=some g->∃cur,Bk w g e cur:=by
 intro g hg;rcases h.2 with⟨rfl,_⟩|⟨g',cap,cur,rfl,_,hh,_⟩
 ·simp[Value.ownBlock] at hg
 simp only[Value.ownBlock,aqM] at hg;subst hg;exact⟨cur,hh⟩
theorem Bk.grown {w w':World}{g:Nat}{t e:TypeId}{cs:Array Value}(h:Bk w g t cs){v:Value}{base size n:Nat}{xs:List Value}(hg:w.grownBy w' v.ownBlock)(ho:w.ownsRow base e size v n xs)(hne:t≠e):Bk w' g t cs:=
 (hg.block g h.lt (fun e'=>by
  obtain⟨cur,hk⟩:=jK ho g e'.symm;have hb2:w.heap[g]? =_:=h;have hk2:w.heap[g]? =_:=hk;rw[hb2] at hk2;injection hk2 with h1
  injection h1 with _ h2
  exact hne h2)).trans h
theorem Bk.new (w:World)(t:TypeId)(cs:Array Value):Bk (w.alloc (.cells cs t)) w.heap.size t cs:=heap_alloc_new w _
theorem RdT.other {w w':World}{t:TypeId}{A:Option Addr}{n size:Nat}{cs:List Value}{row:Option Nat}(h:RdT w t A n size cs)(hg:w.grownBy w' row)(hr:∀r,row=some r->∃o:Obj,w.heap[r]? =some o/\o.isCells=false):RdT w' t A n size cs:=
 ⟨h.1,fun hn=>by
  obtain⟨b,o,cur,e,hb',hc⟩:=h.2 hn;refine⟨b,o,cur,e,(hg.block b hb'.lt (fun e=> ?_)).trans hb',hc⟩;obtain⟨o',ho,hc⟩:=hr b e.symm;have hb2:w.heap[b]? =_:=hb';rw[hb2] at ho;cases ho;cases hc⟩
theorem ownsRow_base {w:World}{b b':Nat}{e:TypeId}{size:Nat}{v:Value}{n:Nat}{xs:List Value}(h:w.ownsRow b e size v n xs)(hb:b'<=b):w.ownsRow b' e size v n xs:=⟨h.1,h.2.imp id (fun⟨g,cap,cur,h1,h2,h3⟩=>⟨g,cap,cur,h1,by omega,h3⟩)⟩
theorem kH {w:World}{base n size c:Nat}{e:TypeId}{A:Option Addr}{xs:List Value}(h:w.ownsRow base e size (.slice A n c) n xs):RdT w e A n size xs:=by
 refine⟨h.1,fun hn=> ?_⟩;rcases h.2 with⟨h1,_⟩|⟨g,cap,cur,h1,_,hh,_,_,_,htk⟩
 ·simp only[arf] at h1;omega
 simp only[arf,true_and] at h1;obtain⟨rfl,rfl⟩:=h1;refine⟨g,0,cur,rfl,hh,fun j u hu=> ?_⟩;rw[<-htk,aqP] at hu;split at hu
 ·rw[aq2,<-Array.getElem?_toList];exact hu
 cases hu
theorem vZ {w:World}{base n size c:Nat}{e:TypeId}{A:Option Addr}{xs:List Value}(h:w.ownsRow base e size (.slice A n c) n xs):n<=c:=by
 rcases h.2 with⟨h1,h2⟩|⟨g,cap,cur,h1,_,_,h3,_⟩
 ·omega
 simp only[arf] at h1;omega
def aos (T:Nat->Prop)(W W':World):Prop:=∀b,T b->∀o,W.heap[b]? =some o->o.isCells=true->W'.heap[b]? =some o
theorem aos.refl (T:Nat->Prop)(W:World):aos T W W:=fun _ _ _ h _=>h
theorem aos.trans {T:Nat->Prop}{A B C:World}(h:aos T A B)(k:aos T B C):aos T A C:=fun b hb o ho hc=>k b hb o (h b hb o ho hc) hc
theorem aos.put {T:Nat->Prop}(W:World)(l:Nat)(o o':Obj)(h:W.heap[l]? =some o)(hc:o.isCells=false):aos T W (W.putObj l o'):=fun b _ q hq hqc=>by
 have hne:l≠b:=by
  rintro rfl;rw[h] at hq;injection hq with hq
  subst hq;simp[hc] at hqc
 exact(World.putObj_heap_other (Ne.symm hne)).trans hq
theorem aos.below {T:Nat->Prop}{W W':World}(h:Below W.heap.size W W'):aos T W W':=fun b _ o ho _=>(h.block b (aqo.1 ho).1).trans ho
theorem aos.cell {T:Nat->Prop}{W W':World}(h:aos T W W'){p:Addr}(hp:T p.block){v:Value}(hc:W.cell? p=some v):W'.cell? p=some v:=by
 unfold World.cell? at hc ⊢;split at hc
 ·rename_i c e f heq;rw[h _ hp _ heq rfl];exact hc
 cases hc
theorem aos.rd {T:Nat->Prop}{W W':World}(h:aos T W W'){B:Nat}(hT:∀b,b<B->T b){A:Option Addr}{n size:Nat}{cs:List Value}(hr:Rd W B A n size cs):Rd W' B A n size cs:=
 ⟨hr.1,fun hn=>by
  obtain⟨b,o,e,hb,hc⟩:=hr.2 hn;exact⟨b,o,e,hb,fun j u hu=>h.cell (p:=⟨b,o+j,none⟩) (hT b hb) (hc j u hu)⟩⟩
def RowsIn (t:TypeId)(w:World)(hs:List Value)(rows:List (List P3)):Prop:=hs.length=rows.length/\∀(i:Nat) (r:List P3),rows[i]? =some r->∃A k c,hs[i]? =some (Value.slice A k c)/\RdT w t A k 3 (dD r)/\k<=c
theorem RowsIn.nil (t:TypeId)(w:World):RowsIn t w [] []:=⟨rfl,fun i r h=>by simp at h⟩
theorem RowsIn.kept {t:TypeId}{w w':World}{hs:List Value}{rows:List (List P3)}(h:RowsIn t w hs rows)(hk:∀A k r,RdT w t A k 3 (dD r)->RdT w' t A k 3 (dD r)):RowsIn t w' hs rows:=⟨h.1,fun i r hi=>by obtain⟨A,k,c,h1,h2,h3⟩:=h.2 i r hi;exact⟨A,k,c,h1,hk _ _ _ h2,h3⟩⟩
theorem RowsIn.snoc {t:TypeId}{w:World}{hs:List Value}{rows:List (List P3)}(h:RowsIn t w hs rows){A:Option Addr}{k c:Nat}{r:List P3}(hr:RdT w t A k 3 (dD r))(hkc:k<=c):RowsIn t w (hs++[.slice A k c]) (rows++[r]):=by
 refine⟨by simp[h.1],fun i r' hi=> ?_⟩;by_cases hlt:i<rows.length
 ·rw[aqJ hlt] at hi;obtain⟨A',k',c',h1,h2⟩:=h.2 i r' hi;exact⟨A',k',c',by rw[aqJ (by rw[h.1];exact hlt)];exact h1,h2⟩
 have hi2:i=rows.length:=by have:=(aqm.1 hi).1;simp at this;omega
 subst hi2;simp at hi;subst hi;exact⟨A,k,c,by rw[<-h.1];simp,hr,hkc⟩
theorem RowsIn.below {t:TypeId}{w w':World}{hs:List Value}{rows:List (List P3)}(h:RowsIn t w hs rows)(hb:Below w.heap.size w w'):RowsIn t w' hs rows:=h.kept fun _ _ _ hr=>hr.below hb
end
section
structure Ins where
 op:Int
 a:Int
 deriving DecidableEq
structure Pt where
 x:Int
 y:Int
 on:Bool
 deriving DecidableEq
structure Part where
 anX:Int
 x:Int
 y:Int
 deriving DecidableEq
structure an8 where
 kind:Int
 cls:Int
 x:Int
 y:Int
 deriving DecidableEq
structure Delta where
 region:Int
 point:Int
 x:Int
 y:Int
 deriving DecidableEq
structure anP where
 name:B
 advance:Int
 mark:Bool
 points:List Pt
 ends:List Int
 parts:List Part
 anchors:List an8
 deltas:List Delta
 hint:List Ins
 deriving DecidableEq
structure Chr where
 rune:Int
 anX:Int
 deriving DecidableEq
structure Call where
 at':Int
 lookup:Int
 deriving DecidableEq
structure aom where
 back:List (List Int)
 in':List (List Int)
 ahead:List (List Int)
 out:List Int
 calls:List Call
 x:Int
 deriving DecidableEq
structure Lookup where
 kind:Int
 aol:Bool
 rules:List aom
 deriving DecidableEq
structure aon where
 name:B
 anM:List Int
 deriving DecidableEq
structure aoA where
 name:B
 min':Int
 aou:Int
 max':Int
 deriving DecidableEq
structure aot where
 start:Int
 peak:Int
 stop:Int
 deriving DecidableEq
structure Region where
 anT:List aot
 deriving DecidableEq
structure Fnt where
 unit:Int
 anL:List anP
 chars:List Chr
 anM:List Lookup
 features:List aon
 anR:List aoA
 regions:List Region
 funcs:List (List Ins)
 cvt:List Int
 deriving DecidableEq
def opNames:List B:=[[112,117,115,104],[112,111,112],[100,117,112],[115,119,97,112],[97,100,100],[115,117,98],[109,117,108],[100,105,118],[110,101,103],[97,98,115],[109,105,110],[109,97,120],[102,108,111,111,114],[99,101,105,108],[114,111,117,110,100],[108,116],[108,101],[101,113],[110,111,116],[97,110,100],[111,114],[112,114,111,106],[102,114,101,101],[109,111,100,101],[99,118,116],[115,101,116,99,118,116],[108,111,97,100],[115,97,118,101],[103,101,116],[111,114,103],[109,111,118,101],[115,101,116],[97,108,105,103,110],[105,110,116,101,114],[106,117,109,112],[106,117,109,112,122],[99,97,108,108,102],[108,111,111,112],[115,105,122,101]]
def anchorNames:List B:=[[98,97,115,101],[109,97,114,107],[101,110,116,114,121],[101,120,105,116]]
def aS:List B:=[[115,105,110,103,108,101],[109,117,108,116,105,112,108,101],[108,105,103,97,116,117,114,101],[99,104,97,105,110],[114,101,118,101,114,115,101],[112,97,105,114],[99,117,114,115,105,118,101],[109,97,114,107,115]]
abbrev oH:B:=[117,110,105,116]
abbrev sO:B:=[97,120,105,115]
abbrev kG:B:=[114,101,103,105,111,110]
abbrev pz:B:=[99,118,116]
abbrev rY:B:=[102,117,110,99]
abbrev eQ:B:=[103,108,121,112,104]
abbrev kY:B:=[109,97,114,107]
abbrev iW:B:=[99,111,110,116,111,117,114]
abbrev pX:B:=[112,97,114,116]
abbrev kC:B:=[97,110,99,104,111,114]
abbrev nC:B:=[100,101,108,116,97]
abbrev sS:B:=[104,105,110,116]
abbrev rF:B:=[99,104,97,114]
abbrev lU:B:=[108,111,111,107,117,112]
abbrev iE:B:=[105,103,110,111,114,101]
abbrev mF:B:=[114,117,108,101]
abbrev jo:B:=[102,101,97,116,117,114,101]
abbrev uN:B:=[99,108,97,115,115]
def pick (l:List B)(n:Int):B:=if n<1 then [63] else(l[(n - 1).toNat]?).getD [63]
def tH (n:Int):B:=pick opNames n
def aN (n:Int):B:=Lib.itoa n
def bM (more:List B):B:=more.flatMap (fun w=>32::w)
def qi (first:B)(more:List B):B:=first++bM more++[10]
def ku (i:Ins):B:=tH i.op++if i.a=0 then [] else 58::aN i.a
def iI (gs:List anP)(n:Int):B:=if n<0 then 63::aN n else match gs[n.toNat]? with|some g=>g.name|none=>63::aN n
def outW (gs:List anP)(kind:Int)(r:aom):List B:=
 if kind=1\/kind=2\/kind=3\/kind=5 then r.out.map (iI gs)
 else if kind=4 then r.calls.map (fun c=>aN c.at'++58::aN c.lookup)
 else if kind=6 then [aN r.x] else []
def ry (p:Pt):B:=aN p.x++44::aN p.y++if p.on then [] else [42]
def dL (pts:List Pt):Nat->List Int->List (List Pt)
 |_,[]=>[]
 |fr,e::es=>if e<(fr:Int)\/(pts.length:Int)<=e then [] else((pts.take (e.toNat+1)).drop fr)::dL pts (e.toNat+1) es
def AC (t:aot):List B:=[aN t.start,aN t.peak,aN t.stop]
end
section
open Go.RowKit
def gG (c:UInt8):Bool:=decide (48<=c.toNat) && decide (c.toNat<=57)
def JC (c:UInt8):Bool:=(decide (65<=c.toNat) && decide (c.toNat<=90))||(decide (97<=c.toNat) && decide (c.toNat<=122))||c==95||c==46
theorem acK (c d:UInt8):(c==d)=decide (c.toNat=d.toNat):=by rw[Bool.eq_iff_iff];simp[UInt8.toNat_inj]
theorem fG (s:List UInt8)(a b:Nat):(ByteArray.mk s.toArray).extract a b=⟨((s.take b).drop a).toArray⟩:=by apply ByteArray.ext;rw[ByteArray.data_extract];apply Array.ext';simp[List.extract_eq_take_drop,List.drop_take]
end
section
def nb (c:UInt8):Bool:= !blank c
theorem take_snoc (c:B)(i:Nat)(b:UInt8)(h:c[i]? =some b):c.take (i+1)=c.take i++[b]:=by obtain⟨hk,hg⟩:=aqm.1 h;rw[aqB hk,hg]
theorem drop_cons (c:B)(i:Nat)(b:UInt8)(h:c[i]? =some b):c.drop i=b::c.drop (i+1):=by obtain⟨hk,hg⟩:=aqm.1 h;rw[List.drop_eq_getElem_cons hk,hg]
theorem Zu (c:B)(i:Nat)(b:UInt8)(h:c[i]? =some b)(hb:blank b=true):(run (c.take (i+1))).cur=[]:=by rw[take_snoc c i b h,tJ,step,if_pos hb]
theorem Jk {p:UInt8->Bool}(l:B)(k:Nat)(hk:k<=l.length)(h:∀j c,j<k->l[j]? =some c->p c=true)(he:∀c,l[k]? =some c->p c=false):l.takeWhile p=l.take k:=by
 induction l generalizing k with
 |nil=>simp
 |cons a r ih=>
  cases k with
  |zero=>have:=he a rfl;simp[this]
  |succ k=>have h0:=h 0 a (by omega) rfl;rw[List.takeWhile_cons,if_pos h0,List.take_succ_cons,ih k (by simpa using hk) (fun j c hj hc=>h (j+1) c (by omega) (by simpa using hc)) (fun c hc=>he c (by simpa using hc))]
theorem Lm (s:B)(k:Nat)(hk:k<=s.length)(h:∀j c,j<k->s[j]? =some c->c≠35)(he:∀c,s[k]? =some c->c=35):code s=s.take k:=Jk s k hk (fun j c hj hc=>by simpa using h j c hj hc) (fun c hc=>by simpa using he c hc)
end
section
open Go.RowKit
abbrev Bs:=Nat->Prop
abbrev Rel (α:Type):=World->Bs->List Value->α->Prop
def Same (S:Bs)(w w':World):Prop:=∀b,S b->w'.heap[b]? =w.heap[b]?
theorem Same.refl (S:Bs)(w:World):Same S w w:=fun _ _=>rfl
theorem Same.trans {S:Bs}{a b c:World}(h:Same S a b)(k:Same S b c):Same S a c:=fun x hx=>(k x hx).trans (h x hx)
theorem Same.sub {S S':Bs}{a b:World}(h:Same S' a b)(hs:∀x,S x->S' x):Same S a b:=fun x hx=>h x (hs x hx)
theorem Same.cell {S:Bs}{w w':World}(h:Same S w w'){b o:Nat}{v:Value}(hb:S b)(hc:w.cell? ⟨b,o,none⟩=some v):w'.cell? ⟨b,o,none⟩=some v:=(World.cell?_of_block (a:=⟨b,o,none⟩) (h b hb)).trans hc
structure Rel.Ok {α:Type}(R:Rel α):Prop where
 keep:∀ {w w':World} {S:Bs} {cs:List Value} {x:α},R w S cs x->Same S w w'->R w' S cs x
 mono:∀ {w:World} {S S':Bs} {cs:List Value} {x:α},R w S cs x->(∀b,S b->S' b)->R w S' cs x
def Fl {α:Type}(R:Rel α)(size:Nat)(w:World)(S:Bs)(cells:List Value)(xs:List α):Prop:=cells.length=xs.length*size/\∀k x,xs[k]? =some x->∃cs,R w S cs x/\cs.length=size/\∀j u,cs[j]? =some u->cells[k*size+j]? =some u
def Sl {α:Type}(R:Rel α)(size:Nat)(w:World)(S:Bs)(A:Option Addr)(xs:List α):Prop:=∃cells,Fl R size w S cells xs/\(0<xs.length->∃b o,A=some ⟨b,o,none⟩/\S b/\∀j u,cells[j]? =some u->w.cell? ⟨b,o+j,none⟩=some u)
def SlV {α:Type}(R:Rel α)(size:Nat):Rel (List α):=fun w S cs xs=>∃A c,cs=[.slice A xs.length c]/\Sl R size w S A xs
section
variable {α:Type} {R:Rel α} {size:Nat} {w w':World} {S S':Bs} {cells:List Value} {xs:List α} {A:Option Addr}
theorem Fl.keep (ok:R.Ok)(h:Fl R size w S cells xs)(hs:Same S w w'):Fl R size w' S cells xs:=⟨h.1,fun k x hx=>by obtain⟨cs,h1,h2,h3⟩:=h.2 k x hx;exact⟨cs,ok.keep h1 hs,h2,h3⟩⟩
theorem Fl.mono (ok:R.Ok)(h:Fl R size w S cells xs)(hs:∀b,S b->S' b):Fl R size w S' cells xs:=⟨h.1,fun k x hx=>by obtain⟨cs,h1,h2,h3⟩:=h.2 k x hx;exact⟨cs,ok.mono h1 hs,h2,h3⟩⟩
theorem Sl.keep (ok:R.Ok)(h:Sl R size w S A xs)(hs:Same S w w'):Sl R size w' S A xs:=by obtain⟨cells,h1,h2⟩:=h;refine⟨cells,h1.keep ok hs,fun h0=> ?_⟩;obtain⟨b,o,e,hb,hc⟩:=h2 h0;exact⟨b,o,e,hb,fun j u hu=>hs.cell hb (hc j u hu)⟩
theorem Sl.mono (ok:R.Ok)(h:Sl R size w S A xs)(hs:∀b,S b->S' b):Sl R size w S' A xs:=by obtain⟨cells,h1,h2⟩:=h;refine⟨cells,h1.mono ok hs,fun h0=> ?_⟩;obtain⟨b,o,e,hb,hc⟩:=h2 h0;exact⟨b,o,e,hs b hb,hc⟩
theorem SlV.ok (ok:R.Ok):(SlV R size).Ok:=⟨fun⟨A,c,e,h⟩ hs=>⟨A,c,e,h.keep ok hs⟩,fun⟨A,c,e,h⟩ hs=>⟨A,c,e,h.mono ok hs⟩⟩
theorem Sl.get (h:Sl R size w S A xs){k:Nat}(hk:k<xs.length):
  ∃b o x cs,A=some ⟨b,o,none⟩/\S b/\Hid (xs[k]? =some x)/\R w S cs x/\cs.length=size/\∀j u,cs[j]? =some u->w.cell? ⟨b,o+k*size+j,none⟩=some u:=by
 obtain⟨cells,h1,h2⟩:=h;obtain⟨b,o,e,hb,hc⟩:=h2 (by omega);have hx:xs[k]? =some xs[k]:=aqn hk;obtain⟨cs,r1,r2,r3⟩:=h1.2 k _ hx;exact⟨b,o,_,cs,e,hb,hx,r1,r2,fun j u hu=>by rw[aq6];exact hc _ _ (r3 j u hu)⟩
theorem Fl.nil:Fl R size w S [] []:=⟨by simp,fun k x h=>by simp at h⟩
theorem Sl.nil:Sl R size w S A []:=⟨[],Fl.nil,fun h=>absurd h (by simp)⟩
theorem Fl.append {cells2:List Value}{ys:List α}(h:Fl R size w S cells xs)(k:Fl R size w S cells2 ys):Fl R size w S (cells++cells2) (xs++ys):=by
 refine⟨by simp[h.1,k.1,ard],fun i x hx=> ?_⟩;by_cases hi:i<xs.length
 ·rw[aqJ hi] at hx;obtain⟨cs,r1,r2,r3⟩:=h.2 i x hx;refine⟨cs,r1,r2,fun j u hu=> ?_⟩;have hj:=r3 j u hu;rw[aqJ (aqm.1 hj).1];exact hj
 rw[aqI (by omega)] at hx;obtain⟨cs,r1,r2,r3⟩:=k.2 _ x hx;refine⟨cs,r1,r2,fun j u hu=> ?_⟩;have hj:=r3 j u hu;have he:xs.length*size+(i - xs.length)*size=i*size:=by rw[<-ard];congr 1;omega
 rw[aqI (by rw[h.1];omega),h.1,show i*size+j - xs.length*size=(i - xs.length)*size+j by omega];exact hj
theorem Fl.one {cs:List Value}{x:α}(h:R w S cs x)(hl:cs.length=size):Fl R size w S cs [x]:=by
 refine⟨by simp[hl],fun k y hy=> ?_⟩;cases k with
 |zero=>simp at hy;subst hy;exact⟨cs,h,hl,fun j u hu=>by simpa using hu⟩
 |succ k=>simp at hy
theorem Fl.snoc {cs:List Value}{x:α}(h:Fl R size w S cells xs)(k:R w S cs x)(hl:cs.length=size):Fl R size w S (cells++cs) (xs++[x]):=h.append (Fl.one k hl)
theorem Sl.aoy {base n c:Nat}{e:TypeId}(h:w.ownsRow base e size (.slice A n c) n cells)(hf:Fl R size w S cells xs)(hS:∀b cur,Bk w b e cur->S b)(hsz:0<size):Sl R size w S A xs:=by
 refine⟨cells,hf,fun h0=> ?_⟩;rcases h.2 with⟨h1,h2⟩|⟨g,cap,cur,h1,hb,hh,hn,-⟩
 ·have h3:=h.1;have h4:=hf.1;subst h2;simp only[Nat.zero_mul,List.length_eq_zero_iff] at h3;subst h3;have:=Nat.mul_pos h0 hsz;rw[<-h4] at this;simp at this
 simp only[arf,true_and] at h1;obtain⟨rfl,rfl⟩:=h1;refine⟨g,0,rfl,hS g cur hh,fun j u hu=> ?_⟩;have:=h.cells (g:=g) rfl j u hu
 rwa [addr_add] at this
end
end
section
open Go.RowKit
def nN (d:B):Nat:=d.foldl (fun n c=>10*n+(c.toNat - 48)) 0
def ug (d:B):Bool:=d.all gG && decide (1<=d.length/\d.length<=9)
def gJ (s:B):B:=match s with|45::r=>r|s=>s
def signed (s:B):Bool:=match s with|45::_=>true|_=>false
def aI (s:B):Int:=if ug (gJ s) then(if signed s then -(nN (gJ s):Int) else(nN (gJ s):Int)) else 0
def vW (s:B):Bool:=ug (gJ s)
theorem yj (d:B)(c:UInt8):nN (d++[c])=10*nN d+(c.toNat - 48):=by simp[nN]
theorem OO (k:Nat):10 ^ (k+1)=10*10 ^ k:=by rw[Nat.pow_succ,Nat.mul_comm]
theorem UA (d:B)(h:∀c∈d,gG c=true):nN d<10 ^ d.length:=by
 suffices h:∀k,k<=d.length->nN (d.take k)<10 ^ k by simpa using h d.length (ag _)
 intro k;induction k with
 |zero=>intro _;simp[nN]
 |succ k ih=>
  intro hk;have e:d.take (k+1)=d.take k++[d[k]]:=by rw[aqB (by omega)]
  have h1:=ih (by omega);have h2:=h d[k] (List.getElem_mem _);simp[gG] at h2;rw[e,yj,OO];omega
theorem UM (d:B)(c:UInt8)(h:c∈d)(hc:gG c=false):ug d=false:=by rw[ug,Bool.and_eq_false_iff];left;rw[List.all_eq_false];exact⟨c,h,by simp[hc]⟩
theorem aa3 (d:B)(h:d.length<1\/9<d.length):ug d=false:=by rw[ug,Bool.and_eq_false_iff];right;simp;omega
theorem Ry (d:B)(h:∀c∈d,gG c=true)(h1:1<=d.length)(h2:d.length<=9):ug d=true:=by rw[ug,aqK,aqW];exact⟨h,by simp;omega⟩
theorem wP (s:B):(∃r,s=45::r/\gJ s=r/\signed s=true)\/(gJ s=s/\signed s=false/\∀r,s≠45::r):=by
 unfold gJ signed;split
 ·exact .inl ⟨_,rfl,rfl,rfl⟩
 rename_i h;exact .inr ⟨rfl,rfl,h⟩
theorem mM (c:UInt8):gG c=true ↔ 48<=c.toNat/\c.toNat<=57:=by simp[gG]
def nameAt (i:Nat)(c:UInt8):Bool:=JC c||(decide (i≠0) && (gG c||c==45))
def nameB (s:B):Bool:=decide (0<s.length/\s.length<=16) && (List.range s.length).all (fun i=>nameAt i (s[i]?.getD 0))
theorem byte_at (s:B)(k:Nat)(c:UInt8)(h:s[k]? =some c)(hk:k<(ByteArray.mk s.toArray).size):(ByteArray.mk s.toArray)[k]'hk=c:=by obtain⟨h1,h2⟩:=aqm.1 h;rw[<-h2];rfl
theorem EL (s:B)(k:Nat)(c:UInt8)(h:s[k]? =some c)(hn:nameAt k c=false):nameB s=false:=by rw[nameB,Bool.and_eq_false_iff];right;obtain⟨h1,h2⟩:=aqm.1 h;rw[List.all_eq_false];exact⟨k,by simpa using h1,by simp[h,hn]⟩
theorem ZJ (s:B)(h:∀j c,j<s.length->s[j]? =some c->nameAt j c=true):nameB s=decide (0<s.length/\s.length<=16):=by
 rw[nameB];have:((List.range s.length).all fun i=>nameAt i (s[i]?.getD 0))=true:=by
  rw[aqW];intro i hi;have hi':i<s.length:=by simpa using hi
  rw[aqn hi'];exact h i _ hi' (aqn hi')
 rw[this,Bool.and_true]
theorem Tn {k:Nat}{c:UInt8}(h:128<=c.toNat):nameAt k c=false:=by simp[nameAt,JC,gG,acK];omega
theorem Yh (s:B)(h:s.length<1\/16<s.length):nameB s=false:=by rw[nameB,Bool.and_eq_false_iff];left;simp;omega
theorem Ak (k:Nat)(c:UInt8):nameAt k c=true ↔ (65<=c.toNat/\c.toNat<=90)\/(97<=c.toNat/\c.toNat<=122)\/c.toNat=95\/c.toNat=46\/(k≠0/\((48<=c.toNat/\c.toNat<=57)\/c.toNat=45)):=by simp[nameAt,JC,gG,acK];omega
theorem aei (s:B)(fr i:Nat)(h:s[i]? =some 10)(hf:fr<=i)(hn:∀c∈(s.take i).drop fr,c≠10):dh (s.drop fr)=(s.take i).drop fr::dh (s.drop (i+1)):=by
 have hi:=(aqm.1 h).1;have e:s.drop fr=(s.take i).drop fr++10::s.drop (i+1):=by
  rw[<-drop_cons s i 10 h]
  conv=>lhs;rw[<-aqS i s]
  rw[List.drop_append_of_le_length (by rw[aqH];omega)]
 rw[e,DT _ _ hn]
theorem yR (done:List B)(p:B):bK 1 (done++[p])=bK 1 done++if one p=[] then [] else [num (done.length+1) (one p)]:=by rw[Np];simp[bK];rw[Nat.add_comm]
theorem AX (n:Nat)(done:List B):(bK n done).length<=done.length:=by
 induction done generalizing n with
 |nil=>simp[bK]
 |cons p ps ih=>have:=ih (n+1);rw[bK,az];split<;>simp<;>omega
theorem Dz (n:Nat)(l:List (Nat×B)):(num n l).length=l.length:=by simp[num]
def vY (t tr:TypeId)(w w':World)(rows:List (List P3))(v:Value):Prop:=∃A c hs,v= .slice A rows.length c/\RdT w' tr A rows.length 1 hs/\RowsIn t w' hs rows/\Below w.heap.size w w'
theorem Cj (l:B):(run l).all.length<=l.length:=by
 suffices h:∀k,k<=l.length->(run (l.take k)).all.length<=k by simpa using h l.length (ag _)
 intro k;induction k with
 |zero=>intro _;simp[run,st0,St.all,St.pend]
 |succ k ih=>
  intro hk;have e:l.take (k+1)=l.take k++[l[k]]:=by rw[aqB (by omega)]
  have:=ih (by omega);rw[e,tJ];unfold step;split
  ·simp[St.all,St.pend] at this ⊢;omega
  simp only[St.all,St.pend,List.append_eq_nil_iff,List.cons_ne_nil,and_false,if_false,az,ay,ln] at this ⊢;omega
theorem UR (l:B):(one l).length<=l.length:=by unfold one code;exact nt (Cj _) (List.takeWhile_sublist _).length_le
theorem RowsIn.grown {t tr:TypeId}{w w':World}{hs:List Value}{rows:List (List P3)}{base n size:Nat}{v:Value}{xs:List Value}(h:RowsIn t w hs rows)(ho:w.ownsRow base tr size v n xs)(hg:w.grownBy w' v.ownBlock)(hne:t≠tr):RowsIn t w' hs rows:=
 h.kept fun _ _ _ hr=>hr.grown hg fun g e=>by
  obtain⟨cur,hk⟩:=jK ho g e;exact⟨cur,tr,hk,hne⟩
theorem RdT.alloc {w:World}{t:TypeId}{A:Option Addr}{n size:Nat}{cs:List Value}(h:RdT w t A n size cs)(o:Obj):RdT (w.alloc o) t A n size cs:=h.below ((aqk _ _).alloc (ag _) _)
theorem RowsIn.alloc {t:TypeId}{w:World}{hs:List Value}{rows:List (List P3)}(h:RowsIn t w hs rows)(o:Obj):RowsIn t (w.alloc o) hs rows:=h.kept fun _ _ _ hr=>hr.alloc o
theorem ajG (s:ByteArray)(c:Int)(w:World):(callFunc 206 #[.string s,.int .u8 c]).run Tryz.prog w= .ok (.value (.int .i64 (Lib.indexByte s.data.toList c.toNat.toUInt8))) w:=by rw[run_callFunc_extern Tryz.func206 (by kernel_rfl) (by kernel_rfl) (by kernel_rfl) (e:=Extern.BytealgIndexByte.indexByte) (by kernel_rfl),Lib.run_indexByteString];rfl
theorem Me (w:World)(s:B):Calls Tryz.prog 162 #[.string ⟨s.toArray⟩,.string ⟨#[10]⟩] w fun e w'=>e= .returned (.int .i64 (Lib.indexByte s 10))/\w=w':=by
 have ix:=ajG;go_enter Tryz.func162,Tryz.ntmps162
 go_wp2
 ·have h:([10]==s)=true:=by assumption
  have hs:[10]=s:=by simpa using h
  go_ret
  refine⟨?_,rfl⟩;rw[<-hs];rfl
 go_ret
 exact⟨rfl,rfl⟩
end
end Go.Proofs.YtkijckccfookeaaGreatDoor
