/- Lemmas. -/
import Derived.Test.YtkijckccfookeaaDoorW00
import Derived.RangeFuncBox
import Derived.Lib.ItoaNum
import Derived.Test.YtkijckccfookeaaDoorProg
import Derived.Lib.MinMax
import Derived.WalkSpells
import Derived.Lib.IndexLaws
set_option linter.unusedVariables false
set_option linter.unusedSimpArgs false
set_option maxRecDepth 100000
set_option maxHeartbeats 32000000
namespace Go.Proofs.YtkijckccfookeaaDoor
section
open Go.RowKit
def Bk (w:World)(g:Nat)(t:TypeId)(cs:Array Value):Prop:=w.heap[g]? =some (.cells cs t (0,0))
theorem Bk.cell {w:World}{g:Nat}{t:TypeId}{cs:Array Value}(h:Bk w g t cs)(i:Nat):w.cell? ⟨g,i,none⟩=cs[i]? :=by unfold Bk at h;simp[World.cell?,h]
theorem Bk.frozen {w:World}{g:Nat}{t:TypeId}{cs:Array Value}(h:Bk w g t cs)(i:Nat):w.frozen? ⟨g,i,none⟩=false:=by unfold Bk at h;simp[World.frozen?,h]
theorem Bk.lt {w:World}{g:Nat}{t:TypeId}{cs:Array Value}(h:Bk w g t cs):g<w.heap.size:=(aa4.1 h).1
theorem Bk.alloc {w:World}{g:Nat}{t:TypeId}{cs:Array Value}(h:Bk w g t cs)(o:Obj):Bk (w.alloc o) g t cs:=(Below.heap_alloc w o g h.lt).trans h
theorem Bk.set {w:World}{g:Nat}{t:TypeId}{cs:Array Value}(h:Bk w g t cs)(i:Nat)(u:Value):Bk (w.setCell ⟨g,i,none⟩ u) g t (cs.setIfInBounds i u):=by unfold Bk at h ⊢;simp[World.setCell,Array.getElem?_modify,h]
theorem Bk.far {w:World}{g:Nat}{t:TypeId}{cs:Array Value}(h:Bk w g t cs){p:Addr}(hp:g≠p.block)(u:Value):Bk (w.setCell p u) g t cs:=(Below.heap_setCell w p u g hp).trans h
theorem Bk.drew {w:World}{g:Nat}{t:TypeId}{cs:Array Value}(h:Bk w g t cs):Bk w.drew g t cs:=h
theorem Rd.new (w:World)(cs:Array Value)(t:TypeId)(n size:Nat)(h:cs.size=n*size):Rd (w.alloc (.cells cs t)) (w.heap.size+1) (some ⟨w.heap.size,0,none⟩) n size cs.toList:=
 ⟨by simpa using h,fun _=>⟨_,_,rfl,by omega,fun j u hu=>by
  have h1:(w.alloc (.cells cs t)).heap[w.heap.size]? =some (.cells cs t):=heap_alloc_new w _;have:=World.news_of_block h1 j u hu
  rwa [addr_add] at this⟩⟩
theorem Rd.newAt (w:World)(h:Nat)(hh:w.heap.size=h)(cs:Array Value)(t:TypeId)(n size:Nat)(hs:cs.size=n*size):Rd (w.alloc (.cells cs t)) (h+1) (some ⟨h,0,none⟩) n size cs.toList:=by subst hh;exact Rd.new w cs t n size hs
def Z4 (w:World)(t:TypeId)(A:Option Addr)(n size:Nat)(cs:List Value):Prop:=cs.length=n*size/\(0<n->∃b o cur,A=some ⟨b,o,none⟩/\Bk w b t cur/\∀j u,cs[j]? =some u->cur[o+j]? =some u)
theorem Z4.rd {w:World}{t:TypeId}{A:Option Addr}{n size:Nat}{cs:List Value}(h:Z4 w t A n size cs):Rd w w.heap.size A n size cs:=
 ⟨h.1,fun hn=>by
  obtain⟨b,o,cur,e,hb,hc⟩:=h.2 hn;exact⟨b,o,e,hb.lt,fun j u hu=>by rw[hb.cell];exact hc j u hu⟩⟩
theorem Z4.below {w w':World}{t:TypeId}{A:Option Addr}{n size:Nat}{cs:List Value}(h:Z4 w t A n size cs)(hb:Below w.heap.size w w'):Z4 w' t A n size cs:=
 ⟨h.1,fun hn=>by
  obtain⟨b,o,cur,e,hb',hc⟩:=h.2 hn;exact⟨b,o,cur,e,(hb.block b hb'.lt).trans hb',hc⟩⟩
theorem Z4.grown {w w':World}{t:TypeId}{A:Option Addr}{n size:Nat}{cs:List Value}{row:Option Nat}(h:Z4 w t A n size cs)(hg:w.grownBy w' row)(hr:∀g,row=some g->∃cur t',Bk w g t' cur/\t≠t'):Z4 w' t A n size cs:=
 ⟨h.1,fun hn=>by
  obtain⟨b,o,cur,e,hb',hc⟩:=h.2 hn;refine⟨b,o,cur,e,(hg.block b hb'.lt (fun e=> ?_)).trans hb',hc⟩;obtain⟨cur',t',hk,hne⟩:=hr b e.symm;have hb2:w.heap[b]? =_:=hb';have hk2:w.heap[b]? =_:=hk;rw[hb2] at hk2;injection hk2 with h1
  injection h1 with _ h2
  exact hne h2⟩
theorem dh {w:World}{base:Nat}{e:TypeId}{size:Nat}{v:Value}{n:Nat}{xs:List Value}(h:w.ownsRow base e size v n xs):∀g,v.ownBlock=some g->∃cur,Bk w g e cur:=by
 intro g hg;rcases h.2 with⟨rfl,_⟩|⟨g',cap,cur,rfl,_,hh,_⟩
 ·simp[Value.ownBlock] at hg
 simp only[Value.ownBlock,abq] at hg;subst hg;exact⟨cur,hh⟩
theorem Bk.grown {w w':World}{g:Nat}{t e:TypeId}{cs:Array Value}(h:Bk w g t cs){v:Value}{base size n:Nat}{xs:List Value}(hg:w.grownBy w' v.ownBlock)(ho:w.ownsRow base e size v n xs)(hne:t≠e):Bk w' g t cs:=
 (hg.block g h.lt (fun e'=>by
  obtain⟨cur,hk⟩:=dh ho g e'.symm;have hb2:w.heap[g]? =_:=h;have hk2:w.heap[g]? =_:=hk;rw[hb2] at hk2;injection hk2 with h1
  injection h1 with _ h2
  exact hne h2)).trans h
theorem Bk.new (w:World)(t:TypeId)(cs:Array Value):Bk (w.alloc (.cells cs t)) w.heap.size t cs:=heap_alloc_new w _
theorem Z4.other {w w':World}{t:TypeId}{A:Option Addr}{n size:Nat}{cs:List Value}{row:Option Nat}(h:Z4 w t A n size cs)(hg:w.grownBy w' row)(hr:∀r,row=some r->∃o:Obj,w.heap[r]? =some o/\o.isCells=false):Z4 w' t A n size cs:=
 ⟨h.1,fun hn=>by
  obtain⟨b,o,cur,e,hb',hc⟩:=h.2 hn;refine⟨b,o,cur,e,(hg.block b hb'.lt (fun e=> ?_)).trans hb',hc⟩;obtain⟨o',ho,hc⟩:=hr b e.symm;have hb2:w.heap[b]? =_:=hb';rw[hb2] at ho;cases ho;cases hc⟩
theorem ownsRow_base {w:World}{b b':Nat}{e:TypeId}{size:Nat}{v:Value}{n:Nat}{xs:List Value}(h:w.ownsRow b e size v n xs)(hb:b'<=b):w.ownsRow b' e size v n xs:=⟨h.1,h.2.imp id (fun⟨g,cap,cur,h1,h2,h3⟩=>⟨g,cap,cur,h1,by omega,h3⟩)⟩
theorem qI {w:World}{base n size c:Nat}{e:TypeId}{A:Option Addr}{xs:List Value}(h:w.ownsRow base e size (.slice A n c) n xs):Z4 w e A n size xs:=by
 refine⟨h.1,fun hn=> ?_⟩;rcases h.2 with⟨h1,_⟩|⟨g,cap,cur,h1,_,hh,_,_,_,htk⟩
 ·simp only[abQ] at h1;omega
 simp only[abQ,true_and] at h1;obtain⟨rfl,rfl⟩:=h1;refine⟨g,0,cur,rfl,hh,fun j u hu=> ?_⟩;rw[<-htk,abu] at hu;split at hu
 ·rw[abI,<-Array.getElem?_toList];exact hu
 cases hu
theorem AO {w:World}{base n size c:Nat}{e:TypeId}{A:Option Addr}{xs:List Value}(h:w.ownsRow base e size (.slice A n c) n xs):n<=c:=by
 rcases h.2 with⟨h1,h2⟩|⟨g,cap,cur,h1,_,_,h3,_⟩
 ·omega
 simp only[abQ] at h1;omega
def ZV (T:Nat->Prop)(W W':World):Prop:=∀b,T b->∀o,W.heap[b]? =some o->o.isCells=true->W'.heap[b]? =some o
theorem ZV.refl (T:Nat->Prop)(W:World):ZV T W W:=fun _ _ _ h _=>h
theorem ZV.trans {T:Nat->Prop}{A B C:World}(h:ZV T A B)(k:ZV T B C):ZV T A C:=fun b hb o ho hc=>k b hb o (h b hb o ho hc) hc
theorem ZV.put {T:Nat->Prop}(W:World)(l:Nat)(o o':Obj)(h:W.heap[l]? =some o)(hc:o.isCells=false):ZV T W (W.putObj l o'):=fun b _ q hq hqc=>by
 have hne:l≠b:=by
  rintro rfl;rw[h] at hq;injection hq with hq
  subst hq;simp[hc] at hqc
 exact(World.putObj_heap_other (Ne.symm hne)).trans hq
theorem ZV.below {T:Nat->Prop}{W W':World}(h:Below W.heap.size W W'):ZV T W W':=fun b _ o ho _=>(h.block b (aa4.1 ho).1).trans ho
theorem ZV.cell {T:Nat->Prop}{W W':World}(h:ZV T W W'){p:Addr}(hp:T p.block){v:Value}(hc:W.cell? p=some v):W'.cell? p=some v:=by
 unfold World.cell? at hc ⊢;split at hc
 ·rename_i c e f heq;rw[h _ hp _ heq rfl];exact hc
 cases hc
theorem ZV.rd {T:Nat->Prop}{W W':World}(h:ZV T W W'){B:Nat}(hT:∀b,b<B->T b){A:Option Addr}{n size:Nat}{cs:List Value}(hr:Rd W B A n size cs):Rd W' B A n size cs:=
 ⟨hr.1,fun hn=>by
  obtain⟨b,o,e,hb,hc⟩:=hr.2 hn;exact⟨b,o,e,hb,fun j u hu=>h.cell (p:=⟨b,o+j,none⟩) (hT b hb) (hc j u hu)⟩⟩
def RowsIn (t:TypeId)(w:World)(hs:List Value)(rows:List (List P3)):Prop:=hs.length=rows.length/\∀(i:Nat) (r:List P3),rows[i]? =some r->∃A k c,hs[i]? =some (Value.slice A k c)/\Z4 w t A k 3 (jQ r)/\k<=c
theorem RowsIn.nil (t:TypeId)(w:World):RowsIn t w [] []:=⟨rfl,fun i r h=>by simp at h⟩
theorem RowsIn.kept {t:TypeId}{w w':World}{hs:List Value}{rows:List (List P3)}(h:RowsIn t w hs rows)(hk:∀A k r,Z4 w t A k 3 (jQ r)->Z4 w' t A k 3 (jQ r)):RowsIn t w' hs rows:=⟨h.1,fun i r hi=>by obtain⟨A,k,c,h1,h2,h3⟩:=h.2 i r hi;exact⟨A,k,c,h1,hk _ _ _ h2,h3⟩⟩
theorem RowsIn.snoc {t:TypeId}{w:World}{hs:List Value}{rows:List (List P3)}(h:RowsIn t w hs rows){A:Option Addr}{k c:Nat}{r:List P3}(hr:Z4 w t A k 3 (jQ r))(hkc:k<=c):RowsIn t w (hs++[.slice A k c]) (rows++[r]):=by
 refine⟨by simp[h.1],fun i r' hi=> ?_⟩;by_cases hlt:i<rows.length
 ·rw[abn hlt] at hi;obtain⟨A',k',c',h1,h2⟩:=h.2 i r' hi;exact⟨A',k',c',by rw[abn (by rw[h.1];exact hlt)];exact h1,h2⟩
 have hi2:i=rows.length:=by have:=(aa2.1 hi).1;simp at this;omega
 subst hi2;simp at hi;subst hi;exact⟨A,k,c,by rw[<-h.1];simp,hr,hkc⟩
theorem RowsIn.below {t:TypeId}{w w':World}{hs:List Value}{rows:List (List P3)}(h:RowsIn t w hs rows)(hb:Below w.heap.size w w'):RowsIn t w' hs rows:=h.kept fun _ _ _ hr=>hr.below hb
end
section
structure Ins where
 op:Int
 a:Int
 deriving DecidableEq
structure Pt where
 x:Int
 y:Int
 on:Bool
 deriving DecidableEq
structure Part where
 ZF:Int
 x:Int
 y:Int
 deriving DecidableEq
structure ZM where
 kind:Int
 ZO:Int
 x:Int
 y:Int
 deriving DecidableEq
structure Delta where
 region:Int
 point:Int
 x:Int
 y:Int
 deriving DecidableEq
structure Zy where
 name:B
 advance:Int
 mark:Bool
 points:List Pt
 ends:List Int
 parts:List Part
 anchors:List ZM
 deltas:List Delta
 hint:List Ins
 deriving DecidableEq
structure Chr where
 rune:Int
 ZF:Int
 deriving DecidableEq
structure Call where
 at':Int
 lookup:Int
 deriving DecidableEq
structure Z8 where
 back:List (List Int)
 in':List (List Int)
 ahead:List (List Int)
 out:List Int
 calls:List Call
 x:Int
 deriving DecidableEq
structure Lookup where
 kind:Int
 aae:Bool
 rules:List Z8
 deriving DecidableEq
structure aad where
 name:B
 Zu:List Int
 deriving DecidableEq
structure aap where
 name:B
 min':Int
 aas:Int
 max':Int
 deriving DecidableEq
structure aag where
 start:Int
 peak:Int
 stop:Int
 deriving DecidableEq
structure Region where
 ZU:List aag
 deriving DecidableEq
structure Fnt where
 unit:Int
 Zt:List Zy
 chars:List Chr
 Zu:List Lookup
 features:List aad
 ZA:List aap
 regions:List Region
 funcs:List (List Ins)
 ZB:List Int
 deriving DecidableEq
def opNames:List B:=[[112,117,115,104],[112,111,112],[100,117,112],[115,119,97,112],[97,100,100],[115,117,98],[109,117,108],[100,105,118],[110,101,103],[97,98,115],[109,105,110],[109,97,120],[102,108,111,111,114],[99,101,105,108],[114,111,117,110,100],[108,116],[108,101],[101,113],[110,111,116],[97,110,100],[111,114],[112,114,111,106],[102,114,101,101],[109,111,100,101],[99,118,116],[115,101,116,99,118,116],[108,111,97,100],[115,97,118,101],[103,101,116],[111,114,103],[109,111,118,101],[115,101,116],[97,108,105,103,110],[105,110,116,101,114],[106,117,109,112],[106,117,109,112,122],[99,97,108,108,102],[108,111,111,112],[115,105,122,101]]
def anchorNames:List B:=[[98,97,115,101],[109,97,114,107],[101,110,116,114,121],[101,120,105,116]]
def aK:List B:=[[115,105,110,103,108,101],[109,117,108,116,105,112,108,101],[108,105,103,97,116,117,114,101],[99,104,97,105,110],[114,101,118,101,114,115,101],[112,97,105,114],[99,117,114,115,105,118,101],[109,97,114,107,115]]
abbrev dO:B:=[117,110,105,116]
abbrev iE:B:=[97,120,105,115]
abbrev dH:B:=[114,101,103,105,111,110]
abbrev fH:B:=[99,118,116]
abbrev iW:B:=[102,117,110,99]
abbrev bP:B:=[103,108,121,112,104]
abbrev lV:B:=[109,97,114,107]
abbrev bI:B:=[99,111,110,116,111,117,114]
abbrev gW:B:=[112,97,114,116]
abbrev dV:B:=[97,110,99,104,111,114]
abbrev gy:B:=[100,101,108,116,97]
abbrev iH:B:=[104,105,110,116]
abbrev kC:B:=[99,104,97,114]
abbrev dB:B:=[108,111,111,107,117,112]
abbrev iK:B:=[105,103,110,111,114,101]
abbrev bn:B:=[114,117,108,101]
abbrev dY:B:=[102,101,97,116,117,114,101]
abbrev PM:B:=[99,108,97,115,115]
def pick (l:List B)(n:Int):B:=if n<1 then [63] else(l[(n - 1).toNat]?).getD [63]
def fJ (n:Int):B:=pick opNames n
def af (n:Int):B:=Lib.itoa n
def bK (more:List B):B:=more.flatMap (fun w=>32::w)
def ai (first:B)(more:List B):B:=first++bK more++[10]
def aX (i:Ins):B:=fJ i.op++if i.a=0 then [] else 58::af i.a
def aT (gs:List Zy)(n:Int):B:=if n<0 then 63::af n else match gs[n.toNat]? with|some g=>g.name|none=>63::af n
def setW (gs:List Zy)(l:List Int):List B:=match l with|[n]=>[aT gs n]|_=>[91]::l.map (aT gs)++[[93]]
def aQ (gs:List Zy)(l:List (List Int)):List B:=l.flatMap (setW gs)
def outW (gs:List Zy)(kind:Int)(r:Z8):List B:=
 if kind=1\/kind=2\/kind=3\/kind=5 then r.out.map (aT gs)
 else if kind=4 then r.calls.map (fun c=>af c.at'++58::af c.lookup)
 else if kind=6 then [af r.x] else []
def nP (gs:List Zy)(kind:Int)(r:Z8):List B:=aQ gs r.back++[47]::aQ gs r.in'++[47]::aQ gs r.ahead++[62]::outW gs kind r
def gK (gs:List Zy)(kind:Int)(r:Z8):B:=ai bn (nP gs kind r)
def bf (gs:List Zy)(l:Lookup):B:=ai dB (pick aK l.kind::if l.aae then [iK] else [])++l.rules.flatMap (gK gs l.kind)
def dN (p:Pt):B:=af p.x++44::af p.y++if p.on then [] else [42]
def bz (pts:List Pt):Nat->List Int->List (List Pt)
 |_,[]=>[]
 |fr,e::es=>if e<(fr:Int)\/(pts.length:Int)<=e then [] else((pts.take (e.toNat+1)).drop fr)::bz pts (e.toNat+1) es
def bi (gs:List Zy)(g:Zy):B:=
 ai bP (g.name::af g.advance::if g.mark then [lV] else [])++
 (bz g.points 0 g.ends).flatMap (fun c=>ai bI (c.map dN))++
 g.parts.flatMap (fun p=>ai gW [aT gs p.ZF,af p.x,af p.y])++
 g.anchors.flatMap (fun a=>ai dV [pick anchorNames a.kind,af a.ZO,af a.x,af a.y])++
 g.deltas.flatMap (fun d=>ai gy [af d.region,af d.point,af d.x,af d.y])++
 if g.hint.isEmpty then [] else ai iH (g.hint.map aX)
def bF (a:aap):B:=ai iE [a.name,af a.min',af a.aas,af a.max']
def eP (t:aag):List B:=[af t.start,af t.peak,af t.stop]
def aU (r:Region):B:=ai dH (r.ZU.flatMap eP)
def df (p:List Ins):B:=ai iW (p.map aX)
def eG (gs:List Zy)(c:Chr):B:=ai kC [af c.rune,aT gs c.ZF]
def dG (x:aad):B:=ai dY (x.name::x.Zu.map af)
def fC (f:Fnt):B:=
 ai dO [af f.unit]++
 f.ZA.flatMap bF++
 f.regions.flatMap aU++
 (if f.ZB.isEmpty then [] else ai fH (f.ZB.map af))++
 f.funcs.flatMap df++
 f.Zt.flatMap (bi f.Zt)++
 f.chars.flatMap (eG f.Zt)++
 f.Zu.flatMap (bf f.Zt)++
 f.features.flatMap dG
end
section
open Go.RowKit
def kK (c:UInt8):Bool:=decide (48<=c.toNat) && decide (c.toNat<=57)
def BI (c:UInt8):Bool:=(decide (65<=c.toNat) && decide (c.toNat<=90))||(decide (97<=c.toNat) && decide (c.toNat<=122))||c==95||c==46
theorem QT (c d:UInt8):(c==d)=decide (c.toNat=d.toNat):=by rw[Bool.eq_iff_iff];simp[UInt8.toNat_inj]
theorem lM (s:List UInt8)(a b:Nat):(ByteArray.mk s.toArray).extract a b=⟨((s.take b).drop a).toArray⟩:=by apply ByteArray.ext;rw[ByteArray.data_extract];apply Array.ext';simp[List.extract_eq_take_drop,List.drop_take]
end
section
def nb (c:UInt8):Bool:= !blank c
theorem take_snoc (c:B)(i:Nat)(b:UInt8)(h:c[i]? =some b):c.take (i+1)=c.take i++[b]:=by obtain⟨hk,hg⟩:=aa2.1 h;rw[abg hk,hg]
theorem drop_cons (c:B)(i:Nat)(b:UInt8)(h:c[i]? =some b):c.drop i=b::c.drop (i+1):=by obtain⟨hk,hg⟩:=aa2.1 h;rw[List.drop_eq_getElem_cons hk,hg]
theorem ER (c:B)(i:Nat)(b:UInt8)(h:c[i]? =some b)(hb:blank b=true):(run (c.take (i+1))).cur=[]:=by rw[take_snoc c i b h,jV,step,if_pos hb]
theorem ve {p:UInt8->Bool}(l:B)(k:Nat)(hk:k<=l.length)(h:∀j c,j<k->l[j]? =some c->p c=true)(he:∀c,l[k]? =some c->p c=false):l.takeWhile p=l.take k:=by
 induction l generalizing k with
 |nil=>simp
 |cons a r ih=>
  cases k with
  |zero=>have:=he a rfl;simp[this]
  |succ k=>have h0:=h 0 a (by omega) rfl;rw[List.takeWhile_cons,if_pos h0,List.take_succ_cons,ih k (by simpa using hk) (fun j c hj hc=>h (j+1) c (by omega) (by simpa using hc)) (fun c hc=>he c (by simpa using hc))]
theorem wK (s:B)(k:Nat)(hk:k<=s.length)(h:∀j c,j<k->s[j]? =some c->c≠35)(he:∀c,s[k]? =some c->c=35):code s=s.take k:=ve s k hk (fun j c hj hc=>by simpa using h j c hj hc) (fun c hc=>by simpa using he c hc)
end
section
open Go.RowKit
abbrev Bs:=Nat->Prop
abbrev ZL (α:Type):=World->Bs->List Value->α->Prop
def Same (S:Bs)(w w':World):Prop:=∀b,S b->w'.heap[b]? =w.heap[b]?
theorem Same.refl (S:Bs)(w:World):Same S w w:=fun _ _=>rfl
theorem Same.trans {S:Bs}{a b c:World}(h:Same S a b)(k:Same S b c):Same S a c:=fun x hx=>(k x hx).trans (h x hx)
theorem Same.sub {S S':Bs}{a b:World}(h:Same S' a b)(hs:∀x,S x->S' x):Same S a b:=fun x hx=>h x (hs x hx)
theorem Same.cell {S:Bs}{w w':World}(h:Same S w w'){b o:Nat}{v:Value}(hb:S b)(hc:w.cell? ⟨b,o,none⟩=some v):w'.cell? ⟨b,o,none⟩=some v:=(World.cell?_of_block (a:=⟨b,o,none⟩) (h b hb)).trans hc
structure ZL.Ok {α:Type}(R:ZL α):Prop where
 keep:∀ {w w':World} {S:Bs} {cs:List Value} {x:α},R w S cs x->Same S w w'->R w' S cs x
 mono:∀ {w:World} {S S':Bs} {cs:List Value} {x:α},R w S cs x->(∀b,S b->S' b)->R w S' cs x
def Fl {α:Type}(R:ZL α)(size:Nat)(w:World)(S:Bs)(cells:List Value)(xs:List α):Prop:=cells.length=xs.length*size/\∀k x,xs[k]? =some x->∃cs,R w S cs x/\cs.length=size/\∀j u,cs[j]? =some u->cells[k*size+j]? =some u
def Sl {α:Type}(R:ZL α)(size:Nat)(w:World)(S:Bs)(A:Option Addr)(xs:List α):Prop:=∃cells,Fl R size w S cells xs/\(0<xs.length->∃b o,A=some ⟨b,o,none⟩/\S b/\∀j u,cells[j]? =some u->w.cell? ⟨b,o+j,none⟩=some u)
def SlV {α:Type}(R:ZL α)(size:Nat):ZL (List α):=fun w S cs xs=>∃A c,cs=[.slice A xs.length c]/\Sl R size w S A xs
section
variable {α:Type} {R:ZL α} {size:Nat} {w w':World} {S S':Bs} {cells:List Value} {xs:List α} {A:Option Addr}
theorem Fl.keep (ok:R.Ok)(h:Fl R size w S cells xs)(hs:Same S w w'):Fl R size w' S cells xs:=⟨h.1,fun k x hx=>by obtain⟨cs,h1,h2,h3⟩:=h.2 k x hx;exact⟨cs,ok.keep h1 hs,h2,h3⟩⟩
theorem Fl.mono (ok:R.Ok)(h:Fl R size w S cells xs)(hs:∀b,S b->S' b):Fl R size w S' cells xs:=⟨h.1,fun k x hx=>by obtain⟨cs,h1,h2,h3⟩:=h.2 k x hx;exact⟨cs,ok.mono h1 hs,h2,h3⟩⟩
theorem Sl.keep (ok:R.Ok)(h:Sl R size w S A xs)(hs:Same S w w'):Sl R size w' S A xs:=by obtain⟨cells,h1,h2⟩:=h;refine⟨cells,h1.keep ok hs,fun h0=> ?_⟩;obtain⟨b,o,e,hb,hc⟩:=h2 h0;exact⟨b,o,e,hb,fun j u hu=>hs.cell hb (hc j u hu)⟩
theorem Sl.mono (ok:R.Ok)(h:Sl R size w S A xs)(hs:∀b,S b->S' b):Sl R size w S' A xs:=by obtain⟨cells,h1,h2⟩:=h;refine⟨cells,h1.mono ok hs,fun h0=> ?_⟩;obtain⟨b,o,e,hb,hc⟩:=h2 h0;exact⟨b,o,e,hs b hb,hc⟩
theorem SlV.ok (ok:R.Ok):(SlV R size).Ok:=⟨fun⟨A,c,e,h⟩ hs=>⟨A,c,e,h.keep ok hs⟩,fun⟨A,c,e,h⟩ hs=>⟨A,c,e,h.mono ok hs⟩⟩
theorem Sl.get (h:Sl R size w S A xs){k:Nat}(hk:k<xs.length):
  ∃b o x cs,A=some ⟨b,o,none⟩/\S b/\Hid (xs[k]? =some x)/\R w S cs x/\cs.length=size/\∀j u,cs[j]? =some u->w.cell? ⟨b,o+k*size+j,none⟩=some u:=by
 obtain⟨cells,h1,h2⟩:=h;obtain⟨b,o,e,hb,hc⟩:=h2 (by omega);have hx:xs[k]? =some xs[k]:=aa3 hk;obtain⟨cs,r1,r2,r3⟩:=h1.2 k _ hx;exact⟨b,o,_,cs,e,hb,hx,r1,r2,fun j u hu=>by rw[abK];exact hc _ _ (r3 j u hu)⟩
theorem Fl.nil:Fl R size w S [] []:=⟨by simp,fun k x h=>by simp at h⟩
theorem Sl.nil:Sl R size w S A []:=⟨[],Fl.nil,fun h=>absurd h (by simp)⟩
theorem Fl.append {cells2:List Value}{ys:List α}(h:Fl R size w S cells xs)(k:Fl R size w S cells2 ys):Fl R size w S (cells++cells2) (xs++ys):=by
 refine⟨by simp[h.1,k.1,abP],fun i x hx=> ?_⟩;by_cases hi:i<xs.length
 ·rw[abn hi] at hx;obtain⟨cs,r1,r2,r3⟩:=h.2 i x hx;refine⟨cs,r1,r2,fun j u hu=> ?_⟩;have hj:=r3 j u hu;rw[abn (aa2.1 hj).1];exact hj
 rw[abm (by omega)] at hx;obtain⟨cs,r1,r2,r3⟩:=k.2 _ x hx;refine⟨cs,r1,r2,fun j u hu=> ?_⟩;have hj:=r3 j u hu;have he:xs.length*size+(i - xs.length)*size=i*size:=by rw[<-abP];congr 1;omega
 rw[abm (by rw[h.1];omega),h.1,show i*size+j - xs.length*size=(i - xs.length)*size+j by omega];exact hj
theorem Fl.one {cs:List Value}{x:α}(h:R w S cs x)(hl:cs.length=size):Fl R size w S cs [x]:=by
 refine⟨by simp[hl],fun k y hy=> ?_⟩;cases k with
 |zero=>simp at hy;subst hy;exact⟨cs,h,hl,fun j u hu=>by simpa using hu⟩
 |succ k=>simp at hy
theorem Fl.snoc {cs:List Value}{x:α}(h:Fl R size w S cells xs)(k:R w S cs x)(hl:cs.length=size):Fl R size w S (cells++cs) (xs++[x]):=h.append (Fl.one k hl)
theorem Sl.ZX {base n c:Nat}{e:TypeId}(h:w.ownsRow base e size (.slice A n c) n cells)(hf:Fl R size w S cells xs)(hS:∀b cur,Bk w b e cur->S b)(hsz:0<size):Sl R size w S A xs:=by
 refine⟨cells,hf,fun h0=> ?_⟩;rcases h.2 with⟨h1,h2⟩|⟨g,cap,cur,h1,hb,hh,hn,-⟩
 ·have h3:=h.1;have h4:=hf.1;subst h2;simp only[Nat.zero_mul,List.length_eq_zero_iff] at h3;subst h3;have:=Nat.mul_pos h0 hsz;rw[<-h4] at this;simp at this
 simp only[abQ,true_and] at h1;obtain⟨rfl,rfl⟩:=h1;refine⟨g,0,rfl,hS g cur hh,fun j u hu=> ?_⟩;have:=h.cells (g:=g) rfl j u hu
 rwa [addr_add] at this
end
end
section
open Go.RowKit
def rG (d:B):Nat:=d.foldl (fun n c=>10*n+(c.toNat - 48)) 0
def zM (d:B):Bool:=d.all kK && decide (1<=d.length/\d.length<=9)
def jm (s:B):B:=match s with|45::r=>r|s=>s
def signed (s:B):Bool:=match s with|45::_=>true|_=>false
def dD (s:B):Int:=if zM (jm s) then(if signed s then -(rG (jm s):Int) else(rG (jm s):Int)) else 0
def xU (s:B):Bool:=zM (jm s)
theorem xh (d:B)(c:UInt8):rG (d++[c])=10*rG d+(c.toNat - 48):=by simp[rG]
theorem IZ (d:B)(h:∀c∈d,kK c=true)(h1:1<=d.length)(h2:d.length<=9):zM d=true:=by rw[zM,abo,abB];exact⟨h,by simp;omega⟩
theorem zS (s:B):(∃r,s=45::r/\jm s=r/\signed s=true)\/(jm s=s/\signed s=false/\∀r,s≠45::r):=by
 unfold jm signed;split
 ·exact .inl ⟨_,rfl,rfl,rfl⟩
 rename_i h;exact .inr ⟨rfl,rfl,h⟩
theorem oC (c:UInt8):kK c=true ↔ 48<=c.toNat/\c.toNat<=57:=by simp[kK]
def nameAt (i:Nat)(c:UInt8):Bool:=BI c||(decide (i≠0) && (kK c||c==45))
def nameB (s:B):Bool:=decide (0<s.length/\s.length<=16) && (List.range s.length).all (fun i=>nameAt i (s[i]?.getD 0))
theorem byte_at (s:B)(k:Nat)(c:UInt8)(h:s[k]? =some c)(hk:k<(ByteArray.mk s.toArray).size):(ByteArray.mk s.toArray)[k]'hk=c:=by obtain⟨h1,h2⟩:=aa2.1 h;rw[<-h2];rfl
theorem IE (s:B)(k:Nat)(c:UInt8)(h:s[k]? =some c)(hn:nameAt k c=false):nameB s=false:=by rw[nameB,Bool.and_eq_false_iff];right;obtain⟨h1,h2⟩:=aa2.1 h;rw[List.all_eq_false];exact⟨k,by simpa using h1,by simp[h,hn]⟩
theorem Dj (k:Nat)(c:UInt8):nameAt k c=true ↔ (65<=c.toNat/\c.toNat<=90)\/(97<=c.toNat/\c.toNat<=122)\/c.toNat=95\/c.toNat=46\/(k≠0/\((48<=c.toNat/\c.toNat<=57)\/c.toNat=45)):=by simp[nameAt,BI,kK,QT];omega
theorem Uk (s:ByteArray)(c:Int)(w:World):(callFunc 117 #[.string s,.int .u8 c]).run Tryd.prog w= .ok (.value (.int .i64 (Lib.indexByte s.data.toList c.toNat.toUInt8))) w:=by rw[run_callFunc_extern Tryd.func117 (by kernel_rfl) (by kernel_rfl) (by kernel_rfl) (e:=Extern.BytealgIndexByte.indexByte) (by kernel_rfl),Lib.run_indexByteString];rfl
theorem wM (w:World)(s:B):Calls Tryd.prog 87 #[.string ⟨s.toArray⟩,.string ⟨#[10]⟩] w fun e w'=>e= .returned (.int .i64 (Lib.indexByte s 10))/\w=w':=by
 have ix:=Uk;go_enter Tryd.func87,Tryd.ntmps87
 go_wp2
 ·have h:([10]==s)=true:=by assumption
  have hs:[10]=s:=by simpa using h
  go_ret
  refine⟨?_,rfl⟩;rw[<-hs];rfl
 go_ret
 exact⟨rfl,rfl⟩
theorem LJ (s:B)(fr i:Nat)(h:s[i]? =some 10)(hf:fr<=i)(hn:∀c∈(s.take i).drop fr,c≠10):gz (s.drop fr)=(s.take i).drop fr::gz (s.drop (i+1)):=by
 have hi:=(aa2.1 h).1;have e:s.drop fr=(s.take i).drop fr++10::s.drop (i+1):=by
  rw[<-drop_cons s i 10 h]
  conv=>lhs;rw[<-abx i s]
  rw[List.drop_append_of_le_length (by rw[abl];omega)]
 rw[e,AA _ _ hn]
theorem mZ (done:List B)(p:B):bg 1 (done++[p])=bg 1 done++if one p=[] then [] else [num (done.length+1) (one p)]:=by rw[xG];simp[bg];rw[Nat.add_comm]
theorem xB (n:Nat)(done:List B):(bg n done).length<=done.length:=by
 induction done generalizing n with
 |nil=>simp[bg]
 |cons p ps ih=>have:=ih (n+1);rw[bg,la];split<;>simp<;>omega
theorem Be (n:Nat)(l:List (Nat×B)):(num n l).length=l.length:=by simp[num]
def Lp (t tr:TypeId)(w w':World)(rows:List (List P3))(v:Value):Prop:=∃A c hs,v= .slice A rows.length c/\Z4 w' tr A rows.length 1 hs/\RowsIn t w' hs rows/\Below w.heap.size w w'
theorem zK (l:B):(run l).all.length<=l.length:=by
 suffices h:∀k,k<=l.length->(run (l.take k)).all.length<=k by simpa using h l.length (ag _)
 intro k;induction k with
 |zero=>intro _;simp[run,st0,St.all,St.pend]
 |succ k ih=>
  intro hk;have e:l.take (k+1)=l.take k++[l[k]]:=by rw[abg (by omega)]
  have:=ih (by omega);rw[e,jV];unfold step;split
  ·simp[St.all,St.pend] at this ⊢;omega
  simp only[St.all,St.pend,List.append_eq_nil_iff,List.cons_ne_nil,and_false,if_false,la,lc,ln] at this ⊢;omega
theorem RowsIn.grown {t tr:TypeId}{w w':World}{hs:List Value}{rows:List (List P3)}{base n size:Nat}{v:Value}{xs:List Value}(h:RowsIn t w hs rows)(ho:w.ownsRow base tr size v n xs)(hg:w.grownBy w' v.ownBlock)(hne:t≠tr):RowsIn t w' hs rows:=
 h.kept fun _ _ _ hr=>hr.grown hg fun g e=>by
  obtain⟨cur,hk⟩:=dh ho g e;exact⟨cur,tr,hk,hne⟩
theorem Z4.alloc {w:World}{t:TypeId}{A:Option Addr}{n size:Nat}{cs:List Value}(h:Z4 w t A n size cs)(o:Obj):Z4 (w.alloc o) t A n size cs:=h.below ((aa0 _ _).alloc (ag _) _)
theorem RowsIn.alloc {t:TypeId}{w:World}{hs:List Value}{rows:List (List P3)}(h:RowsIn t w hs rows)(o:Obj):RowsIn t (w.alloc o) hs rows:=h.kept fun _ _ _ hr=>hr.alloc o
def I64 (z:Int):Prop:= -9223372036854775808<=z/\z<=9223372036854775807
theorem I64.small {z:Int}(h1: -1000000000<=z)(h2:z<=1000000000):I64 z:=⟨by omega,by omega⟩
def Zx:ZL Int:=fun _ _ cs x=>cs=[.int .i64 x]/\I64 x
theorem Zx.ok:Zx.Ok:=⟨fun h _=>h,fun h _=>h⟩
theorem Sl.int {w:World}{S:Bs}{A:Option Addr}{xs:List Int}(h:Sl Zx 1 w S A xs){k:Nat}(hk:k<xs.length):∃b o x,A=some ⟨b,o,none⟩/\S b/\Hid (xs[k]? =some x)/\w.cell? ⟨b,o+k,none⟩=some (.int .i64 x)/\I64 x:=by obtain⟨b,o,x,cs,e,hb,hx,hr,-,hc⟩:=h.get hk;obtain⟨rfl,r0⟩:=hr;simp only[Nat.mul_one] at hc;exact⟨b,o,x,e,hb,hx,hc 0 _ rfl,r0⟩
def aaw:ZL B:=fun _ _ cs x=>cs=[.string ⟨x.toArray⟩]
theorem aaw.ok:aaw.Ok:=⟨fun h _=>h,fun h _=>h⟩
theorem Sl.str {w:World}{S:Bs}{A:Option Addr}{xs:List B}(h:Sl aaw 1 w S A xs){k:Nat}(hk:k<xs.length):∃b o x,A=some ⟨b,o,none⟩/\S b/\Hid (xs[k]? =some x)/\w.cell? ⟨b,o+k,none⟩=some (.string ⟨x.toArray⟩):=by obtain⟨b,o,x,cs,e,hb,hx,hr,-,hc⟩:=h.get hk;obtain rfl:=hr;simp only[Nat.mul_one] at hc;exact⟨b,o,x,e,hb,hx,hc 0 _ rfl⟩
def Zw:ZL (List Int):=SlV Zx 1
theorem Zw.ok:Zw.Ok:=SlV.ok Zx.ok
theorem Sl.row {w:World}{S:Bs}{A:Option Addr}{xs:List (List Int)}(h:Sl Zw 1 w S A xs){k:Nat}(hk:k<xs.length):∃b o x A1 c1,A=some ⟨b,o,none⟩/\S b/\Hid (xs[k]? =some x)/\w.cell? ⟨b,o+k,none⟩=some (.slice A1 x.length c1)/\Sl Zx 1 w S A1 x:=by obtain⟨b,o,x,cs,e,hb,hx,hr,-,hc⟩:=h.get hk;obtain⟨A1,c1,rfl,h1⟩:=hr;simp only[Nat.mul_one] at hc;exact⟨b,o,x,A1,c1,e,hb,hx,hc 0 _ rfl,h1⟩
def ZQ:ZL Ins:=fun _ _ cs x=>cs=[.int .i64 x.op,.int .i64 x.a]/\I64 x.op/\I64 x.a
theorem ZQ.ok:ZQ.Ok:=⟨fun h _=>h,fun h _=>h⟩
theorem Sl.ins {w:World}{S:Bs}{A:Option Addr}{xs:List Ins}(h:Sl ZQ 2 w S A xs){k:Nat}(hk:k<xs.length):∃b o x,A=some ⟨b,o,none⟩/\S b/\Hid (xs[k]? =some x)/\w.cell? ⟨b,o+k*2,none⟩=some (.int .i64 x.op)/\w.cell? ⟨b,o+k*2+1,none⟩=some (.int .i64 x.a)/\I64 x.op/\I64 x.a:=by obtain⟨b,o,x,cs,e,hb,hx,hr,-,hc⟩:=h.get hk;obtain⟨rfl,r0,r1⟩:=hr;exact⟨b,o,x,e,hb,hx,hc 0 _ rfl,hc 1 _ rfl,r0,r1⟩
def ZW:ZL (List Ins):=SlV ZQ 2
theorem ZW.ok:ZW.Ok:=SlV.ok ZQ.ok
theorem Sl.code {w:World}{S:Bs}{A:Option Addr}{xs:List (List Ins)}(h:Sl ZW 1 w S A xs){k:Nat}(hk:k<xs.length):∃b o x A1 c1,A=some ⟨b,o,none⟩/\S b/\Hid (xs[k]? =some x)/\w.cell? ⟨b,o+k,none⟩=some (.slice A1 x.length c1)/\Sl ZQ 2 w S A1 x:=by obtain⟨b,o,x,cs,e,hb,hx,hr,-,hc⟩:=h.get hk;obtain⟨A1,c1,rfl,h1⟩:=hr;simp only[Nat.mul_one] at hc;exact⟨b,o,x,A1,c1,e,hb,hx,hc 0 _ rfl,h1⟩
def PtR:ZL Pt:=fun _ _ cs x=>cs=[.int .i64 x.x,.int .i64 x.y,.bool x.on]/\I64 x.x/\I64 x.y
theorem PtR.ok:PtR.Ok:=⟨fun h _=>h,fun h _=>h⟩
theorem Sl.pt {w:World}{S:Bs}{A:Option Addr}{xs:List Pt}(h:Sl PtR 3 w S A xs){k:Nat}(hk:k<xs.length):∃b o x,A=some ⟨b,o,none⟩/\S b/\Hid (xs[k]? =some x)/\w.cell? ⟨b,o+k*3,none⟩=some (.int .i64 x.x)/\w.cell? ⟨b,o+k*3+1,none⟩=some (.int .i64 x.y)/\w.cell? ⟨b,o+k*3+2,none⟩=some (.bool x.on)/\I64 x.x/\I64 x.y:=by obtain⟨b,o,x,cs,e,hb,hx,hr,-,hc⟩:=h.get hk;obtain⟨rfl,r0,r1⟩:=hr;exact⟨b,o,x,e,hb,hx,hc 0 _ rfl,hc 1 _ rfl,hc 2 _ rfl,r0,r1⟩
def aao:ZL Part:=fun _ _ cs x=>cs=[.int .i64 x.ZF,.int .i64 x.x,.int .i64 x.y]/\I64 x.ZF/\I64 x.x/\I64 x.y
theorem aao.ok:aao.Ok:=⟨fun h _=>h,fun h _=>h⟩
theorem Sl.part {w:World}{S:Bs}{A:Option Addr}{xs:List Part}(h:Sl aao 3 w S A xs){k:Nat}(hk:k<xs.length):∃b o x,A=some ⟨b,o,none⟩/\S b/\Hid (xs[k]? =some x)/\w.cell? ⟨b,o+k*3,none⟩=some (.int .i64 x.ZF)/\w.cell? ⟨b,o+k*3+1,none⟩=some (.int .i64 x.x)/\w.cell? ⟨b,o+k*3+2,none⟩=some (.int .i64 x.y)/\I64 x.ZF/\I64 x.x/\I64 x.y:=by obtain⟨b,o,x,cs,e,hb,hx,hr,-,hc⟩:=h.get hk;obtain⟨rfl,r0,r1,r2⟩:=hr;exact⟨b,o,x,e,hb,hx,hc 0 _ rfl,hc 1 _ rfl,hc 2 _ rfl,r0,r1,r2⟩
def aac:ZL ZM:=fun _ _ cs x=>cs=[.int .i64 x.kind,.int .i64 x.ZO,.int .i64 x.x,.int .i64 x.y]/\I64 x.kind/\I64 x.ZO/\I64 x.x/\I64 x.y
theorem aac.ok:aac.Ok:=⟨fun h _=>h,fun h _=>h⟩
theorem Sl.anchor {w:World}{S:Bs}{A:Option Addr}{xs:List ZM}(h:Sl aac 4 w S A xs){k:Nat}(hk:k<xs.length):∃b o x,A=some ⟨b,o,none⟩/\S b/\Hid (xs[k]? =some x)/\w.cell? ⟨b,o+k*4,none⟩=some (.int .i64 x.kind)/\w.cell? ⟨b,o+k*4+1,none⟩=some (.int .i64 x.ZO)/\w.cell? ⟨b,o+k*4+2,none⟩=some (.int .i64 x.x)/\w.cell? ⟨b,o+k*4+3,none⟩=some (.int .i64 x.y)/\I64 x.kind/\I64 x.ZO/\I64 x.x/\I64 x.y:=by obtain⟨b,o,x,cs,e,hb,hx,hr,-,hc⟩:=h.get hk;obtain⟨rfl,r0,r1,r2,r3⟩:=hr;exact⟨b,o,x,e,hb,hx,hc 0 _ rfl,hc 1 _ rfl,hc 2 _ rfl,hc 3 _ rfl,r0,r1,r2,r3⟩
def aah:ZL Delta:=fun _ _ cs x=>cs=[.int .i64 x.region,.int .i64 x.point,.int .i64 x.x,.int .i64 x.y]/\I64 x.region/\I64 x.point/\I64 x.x/\I64 x.y
theorem aah.ok:aah.Ok:=⟨fun h _=>h,fun h _=>h⟩
theorem Sl.delta {w:World}{S:Bs}{A:Option Addr}{xs:List Delta}(h:Sl aah 4 w S A xs){k:Nat}(hk:k<xs.length):∃b o x,A=some ⟨b,o,none⟩/\S b/\Hid (xs[k]? =some x)/\w.cell? ⟨b,o+k*4,none⟩=some (.int .i64 x.region)/\w.cell? ⟨b,o+k*4+1,none⟩=some (.int .i64 x.point)/\w.cell? ⟨b,o+k*4+2,none⟩=some (.int .i64 x.x)/\w.cell? ⟨b,o+k*4+3,none⟩=some (.int .i64 x.y)/\I64 x.region/\I64 x.point/\I64 x.x/\I64 x.y:=by obtain⟨b,o,x,cs,e,hb,hx,hr,-,hc⟩:=h.get hk;obtain⟨rfl,r0,r1,r2,r3⟩:=hr;exact⟨b,o,x,e,hb,hx,hc 0 _ rfl,hc 1 _ rfl,hc 2 _ rfl,hc 3 _ rfl,r0,r1,r2,r3⟩
def ZK:ZL Zy:=fun w S cs x=>∃A3 c3 A4 c4 A5 c5 A6 c6 A7 c7 A8 c8,cs=[.string ⟨x.name.toArray⟩,.int .i64 x.advance,.bool x.mark,.slice A3 x.points.length c3,.slice A4 x.ends.length c4,.slice A5 x.parts.length c5,.slice A6 x.anchors.length c6,.slice A7 x.deltas.length c7,.slice A8 x.hint.length c8]/\I64 x.advance/\Sl PtR 3 w S A3 x.points/\Sl Zx 1 w S A4 x.ends/\Sl aao 3 w S A5 x.parts/\Sl aac 4 w S A6 x.anchors/\Sl aah 4 w S A7 x.deltas/\Sl ZQ 2 w S A8 x.hint
theorem ZK.ok:ZK.Ok:=⟨fun⟨A3,c3,A4,c4,A5,c5,A6,c6,A7,c7,A8,c8,e,r1,h3,h4,h5,h6,h7,h8⟩ hs=>⟨A3,c3,A4,c4,A5,c5,A6,c6,A7,c7,A8,c8,e,r1,h3.keep PtR.ok hs,h4.keep Zx.ok hs,h5.keep aao.ok hs,h6.keep aac.ok hs,h7.keep aah.ok hs,h8.keep ZQ.ok hs⟩,fun⟨A3,c3,A4,c4,A5,c5,A6,c6,A7,c7,A8,c8,e,r1,h3,h4,h5,h6,h7,h8⟩ hs=>⟨A3,c3,A4,c4,A5,c5,A6,c6,A7,c7,A8,c8,e,r1,h3.mono PtR.ok hs,h4.mono Zx.ok hs,h5.mono aao.ok hs,h6.mono aac.ok hs,h7.mono aah.ok hs,h8.mono ZQ.ok hs⟩⟩
theorem Sl.ZF {w:World}{S:Bs}{A:Option Addr}{xs:List Zy}(h:Sl ZK 9 w S A xs){k:Nat}(hk:k<xs.length):∃b o x A3 c3 A4 c4 A5 c5 A6 c6 A7 c7 A8 c8,A=some ⟨b,o,none⟩/\S b/\Hid (xs[k]? =some x)/\w.cell? ⟨b,o+k*9,none⟩=some (.string ⟨x.name.toArray⟩)/\w.cell? ⟨b,o+k*9+1,none⟩=some (.int .i64 x.advance)/\w.cell? ⟨b,o+k*9+2,none⟩=some (.bool x.mark)/\w.cell? ⟨b,o+k*9+3,none⟩=some (.slice A3 x.points.length c3)/\w.cell? ⟨b,o+k*9+4,none⟩=some (.slice A4 x.ends.length c4)/\w.cell? ⟨b,o+k*9+5,none⟩=some (.slice A5 x.parts.length c5)/\w.cell? ⟨b,o+k*9+6,none⟩=some (.slice A6 x.anchors.length c6)/\w.cell? ⟨b,o+k*9+7,none⟩=some (.slice A7 x.deltas.length c7)/\w.cell? ⟨b,o+k*9+8,none⟩=some (.slice A8 x.hint.length c8)/\I64 x.advance/\Sl PtR 3 w S A3 x.points/\Sl Zx 1 w S A4 x.ends/\Sl aao 3 w S A5 x.parts/\Sl aac 4 w S A6 x.anchors/\Sl aah 4 w S A7 x.deltas/\Sl ZQ 2 w S A8 x.hint:=by obtain⟨b,o,x,cs,e,hb,hx,hr,-,hc⟩:=h.get hk;obtain⟨A3,c3,A4,c4,A5,c5,A6,c6,A7,c7,A8,c8,rfl,r1,h3,h4,h5,h6,h7,h8⟩:=hr;exact⟨b,o,x,A3,c3,A4,c4,A5,c5,A6,c6,A7,c7,A8,c8,e,hb,hx,hc 0 _ rfl,hc 1 _ rfl,hc 2 _ rfl,hc 3 _ rfl,hc 4 _ rfl,hc 5 _ rfl,hc 6 _ rfl,hc 7 _ rfl,hc 8 _ rfl,r1,h3,h4,h5,h6,h7,h8⟩
def aai:ZL Chr:=fun _ _ cs x=>cs=[.int .i64 x.rune,.int .i64 x.ZF]/\I64 x.rune/\I64 x.ZF
theorem aai.ok:aai.Ok:=⟨fun h _=>h,fun h _=>h⟩
theorem Sl.chr {w:World}{S:Bs}{A:Option Addr}{xs:List Chr}(h:Sl aai 2 w S A xs){k:Nat}(hk:k<xs.length):∃b o x,A=some ⟨b,o,none⟩/\S b/\Hid (xs[k]? =some x)/\w.cell? ⟨b,o+k*2,none⟩=some (.int .i64 x.rune)/\w.cell? ⟨b,o+k*2+1,none⟩=some (.int .i64 x.ZF)/\I64 x.rune/\I64 x.ZF:=by obtain⟨b,o,x,cs,e,hb,hx,hr,-,hc⟩:=h.get hk;obtain⟨rfl,r0,r1⟩:=hr;exact⟨b,o,x,e,hb,hx,hc 0 _ rfl,hc 1 _ rfl,r0,r1⟩
def ZZ:ZL Call:=fun _ _ cs x=>cs=[.int .i64 x.at',.int .i64 x.lookup]/\I64 x.at'/\I64 x.lookup
theorem ZZ.ok:ZZ.Ok:=⟨fun h _=>h,fun h _=>h⟩
theorem Sl.call {w:World}{S:Bs}{A:Option Addr}{xs:List Call}(h:Sl ZZ 2 w S A xs){k:Nat}(hk:k<xs.length):∃b o x,A=some ⟨b,o,none⟩/\S b/\Hid (xs[k]? =some x)/\w.cell? ⟨b,o+k*2,none⟩=some (.int .i64 x.at')/\w.cell? ⟨b,o+k*2+1,none⟩=some (.int .i64 x.lookup)/\I64 x.at'/\I64 x.lookup:=by obtain⟨b,o,x,cs,e,hb,hx,hr,-,hc⟩:=h.get hk;obtain⟨rfl,r0,r1⟩:=hr;exact⟨b,o,x,e,hb,hx,hc 0 _ rfl,hc 1 _ rfl,r0,r1⟩
def ZP:ZL Z8:=fun w S cs x=>∃A0 c0 A1 c1 A2 c2 A3 c3 A4 c4,cs=[.slice A0 x.back.length c0,.slice A1 x.in'.length c1,.slice A2 x.ahead.length c2,.slice A3 x.out.length c3,.slice A4 x.calls.length c4,.int .i64 x.x]/\I64 x.x/\Sl Zw 1 w S A0 x.back/\Sl Zw 1 w S A1 x.in'/\Sl Zw 1 w S A2 x.ahead/\Sl Zx 1 w S A3 x.out/\Sl ZZ 2 w S A4 x.calls
theorem ZP.ok:ZP.Ok:=⟨fun⟨A0,c0,A1,c1,A2,c2,A3,c3,A4,c4,e,r5,h0,h1,h2,h3,h4⟩ hs=>⟨A0,c0,A1,c1,A2,c2,A3,c3,A4,c4,e,r5,h0.keep Zw.ok hs,h1.keep Zw.ok hs,h2.keep Zw.ok hs,h3.keep Zx.ok hs,h4.keep ZZ.ok hs⟩,fun⟨A0,c0,A1,c1,A2,c2,A3,c3,A4,c4,e,r5,h0,h1,h2,h3,h4⟩ hs=>⟨A0,c0,A1,c1,A2,c2,A3,c3,A4,c4,e,r5,h0.mono Zw.ok hs,h1.mono Zw.ok hs,h2.mono Zw.ok hs,h3.mono Zx.ok hs,h4.mono ZZ.ok hs⟩⟩
theorem Sl.rule {w:World}{S:Bs}{A:Option Addr}{xs:List Z8}(h:Sl ZP 6 w S A xs){k:Nat}(hk:k<xs.length):∃b o x A0 c0 A1 c1 A2 c2 A3 c3 A4 c4,A=some ⟨b,o,none⟩/\S b/\Hid (xs[k]? =some x)/\w.cell? ⟨b,o+k*6,none⟩=some (.slice A0 x.back.length c0)/\w.cell? ⟨b,o+k*6+1,none⟩=some (.slice A1 x.in'.length c1)/\w.cell? ⟨b,o+k*6+2,none⟩=some (.slice A2 x.ahead.length c2)/\w.cell? ⟨b,o+k*6+3,none⟩=some (.slice A3 x.out.length c3)/\w.cell? ⟨b,o+k*6+4,none⟩=some (.slice A4 x.calls.length c4)/\w.cell? ⟨b,o+k*6+5,none⟩=some (.int .i64 x.x)/\I64 x.x/\Sl Zw 1 w S A0 x.back/\Sl Zw 1 w S A1 x.in'/\Sl Zw 1 w S A2 x.ahead/\Sl Zx 1 w S A3 x.out/\Sl ZZ 2 w S A4 x.calls:=by obtain⟨b,o,x,cs,e,hb,hx,hr,-,hc⟩:=h.get hk;obtain⟨A0,c0,A1,c1,A2,c2,A3,c3,A4,c4,rfl,r5,h0,h1,h2,h3,h4⟩:=hr;exact⟨b,o,x,A0,c0,A1,c1,A2,c2,A3,c3,A4,c4,e,hb,hx,hc 0 _ rfl,hc 1 _ rfl,hc 2 _ rfl,hc 3 _ rfl,hc 4 _ rfl,hc 5 _ rfl,r5,h0,h1,h2,h3,h4⟩
def ZE:ZL Lookup:=fun w S cs x=>∃A2 c2,cs=[.int .i64 x.kind,.bool x.aae,.slice A2 x.rules.length c2]/\I64 x.kind/\Sl ZP 6 w S A2 x.rules
theorem ZE.ok:ZE.Ok:=⟨fun⟨A2,c2,e,r0,h2⟩ hs=>⟨A2,c2,e,r0,h2.keep ZP.ok hs⟩,fun⟨A2,c2,e,r0,h2⟩ hs=>⟨A2,c2,e,r0,h2.mono ZP.ok hs⟩⟩
theorem Sl.lookup {w:World}{S:Bs}{A:Option Addr}{xs:List Lookup}(h:Sl ZE 3 w S A xs){k:Nat}(hk:k<xs.length):∃b o x A2 c2,A=some ⟨b,o,none⟩/\S b/\Hid (xs[k]? =some x)/\w.cell? ⟨b,o+k*3,none⟩=some (.int .i64 x.kind)/\w.cell? ⟨b,o+k*3+1,none⟩=some (.bool x.aae)/\w.cell? ⟨b,o+k*3+2,none⟩=some (.slice A2 x.rules.length c2)/\I64 x.kind/\Sl ZP 6 w S A2 x.rules:=by obtain⟨b,o,x,cs,e,hb,hx,hr,-,hc⟩:=h.get hk;obtain⟨A2,c2,rfl,r0,h2⟩:=hr;exact⟨b,o,x,A2,c2,e,hb,hx,hc 0 _ rfl,hc 1 _ rfl,hc 2 _ rfl,r0,h2⟩
def ZH:ZL aad:=fun w S cs x=>∃A1 c1,cs=[.string ⟨x.name.toArray⟩,.slice A1 x.Zu.length c1]/\Sl Zx 1 w S A1 x.Zu
theorem ZH.ok:ZH.Ok:=⟨fun⟨A1,c1,e,h1⟩ hs=>⟨A1,c1,e,h1.keep Zx.ok hs⟩,fun⟨A1,c1,e,h1⟩ hs=>⟨A1,c1,e,h1.mono Zx.ok hs⟩⟩
theorem Sl.aaN {w:World}{S:Bs}{A:Option Addr}{xs:List aad}(h:Sl ZH 2 w S A xs){k:Nat}(hk:k<xs.length):∃b o x A1 c1,A=some ⟨b,o,none⟩/\S b/\Hid (xs[k]? =some x)/\w.cell? ⟨b,o+k*2,none⟩=some (.string ⟨x.name.toArray⟩)/\w.cell? ⟨b,o+k*2+1,none⟩=some (.slice A1 x.Zu.length c1)/\Sl Zx 1 w S A1 x.Zu:=by obtain⟨b,o,x,cs,e,hb,hx,hr,-,hc⟩:=h.get hk;obtain⟨A1,c1,rfl,h1⟩:=hr;exact⟨b,o,x,A1,c1,e,hb,hx,hc 0 _ rfl,hc 1 _ rfl,h1⟩
def ZY:ZL aap:=fun _ _ cs x=>cs=[.string ⟨x.name.toArray⟩,.int .i64 x.min',.int .i64 x.aas,.int .i64 x.max']/\I64 x.min'/\I64 x.aas/\I64 x.max'
theorem ZY.ok:ZY.Ok:=⟨fun h _=>h,fun h _=>h⟩
theorem Sl.aaT {w:World}{S:Bs}{A:Option Addr}{xs:List aap}(h:Sl ZY 4 w S A xs){k:Nat}(hk:k<xs.length):∃b o x,A=some ⟨b,o,none⟩/\S b/\Hid (xs[k]? =some x)/\w.cell? ⟨b,o+k*4,none⟩=some (.string ⟨x.name.toArray⟩)/\w.cell? ⟨b,o+k*4+1,none⟩=some (.int .i64 x.min')/\w.cell? ⟨b,o+k*4+2,none⟩=some (.int .i64 x.aas)/\w.cell? ⟨b,o+k*4+3,none⟩=some (.int .i64 x.max')/\I64 x.min'/\I64 x.aas/\I64 x.max':=by obtain⟨b,o,x,cs,e,hb,hx,hr,-,hc⟩:=h.get hk;obtain⟨rfl,r1,r2,r3⟩:=hr;exact⟨b,o,x,e,hb,hx,hc 0 _ rfl,hc 1 _ rfl,hc 2 _ rfl,hc 3 _ rfl,r1,r2,r3⟩
def aaq:ZL aag:=fun _ _ cs x=>cs=[.int .i64 x.start,.int .i64 x.peak,.int .i64 x.stop]/\I64 x.start/\I64 x.peak/\I64 x.stop
theorem aaq.ok:aaq.Ok:=⟨fun h _=>h,fun h _=>h⟩
theorem Sl.aaZ {w:World}{S:Bs}{A:Option Addr}{xs:List aag}(h:Sl aaq 3 w S A xs){k:Nat}(hk:k<xs.length):∃b o x,A=some ⟨b,o,none⟩/\S b/\Hid (xs[k]? =some x)/\w.cell? ⟨b,o+k*3,none⟩=some (.int .i64 x.start)/\w.cell? ⟨b,o+k*3+1,none⟩=some (.int .i64 x.peak)/\w.cell? ⟨b,o+k*3+2,none⟩=some (.int .i64 x.stop)/\I64 x.start/\I64 x.peak/\I64 x.stop:=by obtain⟨b,o,x,cs,e,hb,hx,hr,-,hc⟩:=h.get hk;obtain⟨rfl,r0,r1,r2⟩:=hr;exact⟨b,o,x,e,hb,hx,hc 0 _ rfl,hc 1 _ rfl,hc 2 _ rfl,r0,r1,r2⟩
def ZJ:ZL Region:=fun w S cs x=>∃A0 c0,cs=[.slice A0 x.ZU.length c0]/\Sl aaq 3 w S A0 x.ZU
theorem ZJ.ok:ZJ.Ok:=⟨fun⟨A0,c0,e,h0⟩ hs=>⟨A0,c0,e,h0.keep aaq.ok hs⟩,fun⟨A0,c0,e,h0⟩ hs=>⟨A0,c0,e,h0.mono aaq.ok hs⟩⟩
theorem Sl.region {w:World}{S:Bs}{A:Option Addr}{xs:List Region}(h:Sl ZJ 1 w S A xs){k:Nat}(hk:k<xs.length):∃b o x A0 c0,A=some ⟨b,o,none⟩/\S b/\Hid (xs[k]? =some x)/\w.cell? ⟨b,o+k,none⟩=some (.slice A0 x.ZU.length c0)/\Sl aaq 3 w S A0 x.ZU:=by obtain⟨b,o,x,cs,e,hb,hx,hr,-,hc⟩:=h.get hk;obtain⟨A0,c0,rfl,h0⟩:=hr;simp only[Nat.mul_one] at hc;exact⟨b,o,x,A0,c0,e,hb,hx,hc 0 _ rfl,h0⟩
def aab:ZL Fnt:=fun w S cs x=>∃A1 c1 A2 c2 A3 c3 A4 c4 A5 c5 A6 c6 A7 c7 A8 c8,cs=[.int .i64 x.unit,.slice A1 x.Zt.length c1,.slice A2 x.chars.length c2,.slice A3 x.Zu.length c3,.slice A4 x.features.length c4,.slice A5 x.ZA.length c5,.slice A6 x.regions.length c6,.slice A7 x.funcs.length c7,.slice A8 x.ZB.length c8]/\I64 x.unit/\Sl ZK 9 w S A1 x.Zt/\Sl aai 2 w S A2 x.chars/\Sl ZE 3 w S A3 x.Zu/\Sl ZH 2 w S A4 x.features/\Sl ZY 4 w S A5 x.ZA/\Sl ZJ 1 w S A6 x.regions/\Sl ZW 1 w S A7 x.funcs/\Sl Zx 1 w S A8 x.ZB
theorem aab.ok:aab.Ok:=⟨fun⟨A1,c1,A2,c2,A3,c3,A4,c4,A5,c5,A6,c6,A7,c7,A8,c8,e,r0,h1,h2,h3,h4,h5,h6,h7,h8⟩ hs=>⟨A1,c1,A2,c2,A3,c3,A4,c4,A5,c5,A6,c6,A7,c7,A8,c8,e,r0,h1.keep ZK.ok hs,h2.keep aai.ok hs,h3.keep ZE.ok hs,h4.keep ZH.ok hs,h5.keep ZY.ok hs,h6.keep ZJ.ok hs,h7.keep ZW.ok hs,h8.keep Zx.ok hs⟩,fun⟨A1,c1,A2,c2,A3,c3,A4,c4,A5,c5,A6,c6,A7,c7,A8,c8,e,r0,h1,h2,h3,h4,h5,h6,h7,h8⟩ hs=>⟨A1,c1,A2,c2,A3,c3,A4,c4,A5,c5,A6,c6,A7,c7,A8,c8,e,r0,h1.mono ZK.ok hs,h2.mono aai.ok hs,h3.mono ZE.ok hs,h4.mono ZH.ok hs,h5.mono ZY.ok hs,h6.mono ZJ.ok hs,h7.mono ZW.ok hs,h8.mono Zx.ok hs⟩⟩
end
end Go.Proofs.YtkijckccfookeaaDoor
