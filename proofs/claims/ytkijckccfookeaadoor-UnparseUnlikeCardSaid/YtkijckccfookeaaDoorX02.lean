/- Lemmas. -/
import Derived.Test.YtkijckccfookeaaDoorX00
import Derived.Test.YtkijckccfookeaaDoorX01
import Derived.RangeFuncBox
import Derived.WalkSpells
set_option linter.unusedVariables false
set_option linter.unusedSimpArgs false
namespace Go.Proofs.YtkijckccfookeaaDoor
section
open Go.RowKit
def Bk (w:World)(g:Nat)(t:TypeId)(cs:Array Value):Prop:=w.heap[g]? =some (.cells cs t (0,0))
theorem Bk.cell {w:World}{g:Nat}{t:TypeId}{cs:Array Value}(h:Bk w g t cs)(i:Nat):w.cell? ⟨g,i,none⟩=cs[i]? :=by unfold Bk at h;simp[World.cell?,h]
theorem Bk.frozen {w:World}{g:Nat}{t:TypeId}{cs:Array Value}(h:Bk w g t cs)(i:Nat):w.frozen? ⟨g,i,none⟩=false:=by unfold Bk at h;simp[World.frozen?,h]
theorem Bk.lt {w:World}{g:Nat}{t:TypeId}{cs:Array Value}(h:Bk w g t cs):g<w.heap.size:=(agI.1 h).1
theorem Bk.alloc {w:World}{g:Nat}{t:TypeId}{cs:Array Value}(h:Bk w g t cs)(o:Obj):Bk (w.alloc o) g t cs:=(Below.heap_alloc w o g h.lt).trans h
theorem Bk.set {w:World}{g:Nat}{t:TypeId}{cs:Array Value}(h:Bk w g t cs)(i:Nat)(u:Value):Bk (w.setCell ⟨g,i,none⟩ u) g t (cs.setIfInBounds i u):=by unfold Bk at h ⊢;simp[World.setCell,Array.getElem?_modify,h]
theorem Bk.far {w:World}{g:Nat}{t:TypeId}{cs:Array Value}(h:Bk w g t cs){p:Addr}(hp:g≠p.block)(u:Value):Bk (w.setCell p u) g t cs:=(Below.heap_setCell w p u g hp).trans h
theorem Bk.drew {w:World}{g:Nat}{t:TypeId}{cs:Array Value}(h:Bk w g t cs):Bk w.drew g t cs:=h
theorem Rd.new (w:World)(cs:Array Value)(t:TypeId)(n size:Nat)(h:cs.size=n*size):Rd (w.alloc (.cells cs t)) (w.heap.size+1) (some ⟨w.heap.size,0,none⟩) n size cs.toList:=
 ⟨by simpa using h,fun _=>⟨_,_,rfl,by omega,fun j u hu=>by
  have h1:(w.alloc (.cells cs t)).heap[w.heap.size]? =some (.cells cs t):=heap_alloc_new w _;have:=World.news_of_block h1 j u hu
  rwa [addr_add] at this⟩⟩
theorem Rd.newAt (w:World)(h:Nat)(hh:w.heap.size=h)(cs:Array Value)(t:TypeId)(n size:Nat)(hs:cs.size=n*size):Rd (w.alloc (.cells cs t)) (h+1) (some ⟨h,0,none⟩) n size cs.toList:=by subst hh;exact Rd.new w cs t n size hs
def RdT (w:World)(t:TypeId)(A:Option Addr)(n size:Nat)(cs:List Value):Prop:=cs.length=n*size/\(0<n->∃b o cur,A=some ⟨b,o,none⟩/\Bk w b t cur/\∀j u,cs[j]? =some u->cur[o+j]? =some u)
theorem RdT.rd {w:World}{t:TypeId}{A:Option Addr}{n size:Nat}{cs:List Value}(h:RdT w t A n size cs):Rd w w.heap.size A n size cs:=
 ⟨h.1,fun hn=>by
  obtain⟨b,o,cur,e,hb,hc⟩:=h.2 hn;exact⟨b,o,e,hb.lt,fun j u hu=>by rw[hb.cell];exact hc j u hu⟩⟩
theorem RdT.below {w w':World}{t:TypeId}{A:Option Addr}{n size:Nat}{cs:List Value}(h:RdT w t A n size cs)(hb:Below w.heap.size w w'):RdT w' t A n size cs:=
 ⟨h.1,fun hn=>by
  obtain⟨b,o,cur,e,hb',hc⟩:=h.2 hn;exact⟨b,o,cur,e,(hb.block b hb'.lt).trans hb',hc⟩⟩
theorem RdT.grown {w w':World}{t:TypeId}{A:Option Addr}{n size:Nat}{cs:List Value}{row:Option Nat}(h:RdT w t A n size cs)(hg:w.grownBy w' row)(hr:∀g,row=some g->∃cur t',Bk w g t' cur/\t≠t'):RdT w' t A n size cs:=
 ⟨h.1,fun hn=>by
  obtain⟨b,o,cur,e,hb',hc⟩:=h.2 hn;refine⟨b,o,cur,e,(hg.block b hb'.lt (fun e=> ?_)).trans hb',hc⟩;obtain⟨cur',t',hk,hne⟩:=hr b e.symm;have hb2:w.heap[b]? =_:=hb';have hk2:w.heap[b]? =_:=hk;rw[hb2] at hk2;injection hk2 with h1
  injection h1 with _ h2
  exact hne h2⟩
theorem gW {w:World}{base:Nat}{e:TypeId}{size:Nat}{v:Value}{n:Nat}{xs:List Value}(h:w.ownsRow base e size v n xs):∀g,v.ownBlock=some g->∃cur,Bk w g e cur:=by
 intro g hg;rcases h.2 with⟨rfl,_⟩|⟨g',cap,cur,rfl,_,hh,_⟩
 ·simp[Value.ownBlock] at hg
 simp only[Value.ownBlock,ag3] at hg;subst hg;exact⟨cur,hh⟩
theorem Bk.grown {w w':World}{g:Nat}{t e:TypeId}{cs:Array Value}(h:Bk w g t cs){v:Value}{base size n:Nat}{xs:List Value}(hg:w.grownBy w' v.ownBlock)(ho:w.ownsRow base e size v n xs)(hne:t≠e):Bk w' g t cs:=
 (hg.block g h.lt (fun e'=>by
  obtain⟨cur,hk⟩:=gW ho g e'.symm;have hb2:w.heap[g]? =_:=h;have hk2:w.heap[g]? =_:=hk;rw[hb2] at hk2;injection hk2 with h1
  injection h1 with _ h2
  exact hne h2)).trans h
theorem Bk.new (w:World)(t:TypeId)(cs:Array Value):Bk (w.alloc (.cells cs t)) w.heap.size t cs:=heap_alloc_new w _
theorem RdT.other {w w':World}{t:TypeId}{A:Option Addr}{n size:Nat}{cs:List Value}{row:Option Nat}(h:RdT w t A n size cs)(hg:w.grownBy w' row)(hr:∀r,row=some r->∃o:Obj,w.heap[r]? =some o/\o.isCells=false):RdT w' t A n size cs:=
 ⟨h.1,fun hn=>by
  obtain⟨b,o,cur,e,hb',hc⟩:=h.2 hn;refine⟨b,o,cur,e,(hg.block b hb'.lt (fun e=> ?_)).trans hb',hc⟩;obtain⟨o',ho,hc⟩:=hr b e.symm;have hb2:w.heap[b]? =_:=hb';rw[hb2] at ho;cases ho;cases hc⟩
theorem ownsRow_base {w:World}{b b':Nat}{e:TypeId}{size:Nat}{v:Value}{n:Nat}{xs:List Value}(h:w.ownsRow b e size v n xs)(hb:b'<=b):w.ownsRow b' e size v n xs:=⟨h.1,h.2.imp id (fun⟨g,cap,cur,h1,h2,h3⟩=>⟨g,cap,cur,h1,by omega,h3⟩)⟩
theorem Jv {w:World}{base n size c:Nat}{e:TypeId}{A:Option Addr}{xs:List Value}(h:w.ownsRow base e size (.slice A n c) n xs):RdT w e A n size xs:=by
 refine⟨h.1,fun hn=> ?_⟩;rcases h.2 with⟨h1,_⟩|⟨g,cap,cur,h1,_,hh,_,_,_,htk⟩
 ·simp only[ahr] at h1;omega
 simp only[ahr,true_and] at h1;obtain⟨rfl,rfl⟩:=h1;refine⟨g,0,cur,rfl,hh,fun j u hu=> ?_⟩;rw[<-htk,ag6] at hu;split at hu
 ·rw[ahh,<-Array.getElem?_toList];exact hu
 cases hu
theorem UU {w:World}{base n size c:Nat}{e:TypeId}{A:Option Addr}{xs:List Value}(h:w.ownsRow base e size (.slice A n c) n xs):n<=c:=by
 rcases h.2 with⟨h1,h2⟩|⟨g,cap,cur,h1,_,_,h3,_⟩
 ·omega
 simp only[ahr] at h1;omega
def afw (T:Nat->Prop)(W W':World):Prop:=∀b,T b->∀o,W.heap[b]? =some o->o.isCells=true->W'.heap[b]? =some o
theorem afw.refl (T:Nat->Prop)(W:World):afw T W W:=fun _ _ _ h _=>h
theorem afw.trans {T:Nat->Prop}{A B C:World}(h:afw T A B)(k:afw T B C):afw T A C:=fun b hb o ho hc=>k b hb o (h b hb o ho hc) hc
theorem afw.put {T:Nat->Prop}(W:World)(l:Nat)(o o':Obj)(h:W.heap[l]? =some o)(hc:o.isCells=false):afw T W (W.putObj l o'):=fun b _ q hq hqc=>by
 have hne:l≠b:=by
  rintro rfl;rw[h] at hq;injection hq with hq
  subst hq;simp[hc] at hqc
 exact(World.putObj_heap_other (Ne.symm hne)).trans hq
theorem afw.below {T:Nat->Prop}{W W':World}(h:Below W.heap.size W W'):afw T W W':=fun b _ o ho _=>(h.block b (agI.1 ho).1).trans ho
theorem afw.cell {T:Nat->Prop}{W W':World}(h:afw T W W'){p:Addr}(hp:T p.block){v:Value}(hc:W.cell? p=some v):W'.cell? p=some v:=by
 unfold World.cell? at hc ⊢;split at hc
 ·rename_i c e f heq;rw[h _ hp _ heq rfl];exact hc
 cases hc
theorem afw.rd {T:Nat->Prop}{W W':World}(h:afw T W W'){B:Nat}(hT:∀b,b<B->T b){A:Option Addr}{n size:Nat}{cs:List Value}(hr:Rd W B A n size cs):Rd W' B A n size cs:=
 ⟨hr.1,fun hn=>by
  obtain⟨b,o,e,hb,hc⟩:=hr.2 hn;exact⟨b,o,e,hb,fun j u hu=>h.cell (p:=⟨b,o+j,none⟩) (hT b hb) (hc j u hu)⟩⟩
def RowsIn (t:TypeId)(w:World)(hs:List Value)(rows:List (List P3)):Prop:=hs.length=rows.length/\∀(i:Nat) (r:List P3),rows[i]? =some r->∃A k c,hs[i]? =some (Value.slice A k c)/\RdT w t A k 3 (TU r)/\k<=c
theorem RowsIn.nil (t:TypeId)(w:World):RowsIn t w [] []:=⟨rfl,fun i r h=>by simp at h⟩
theorem RowsIn.kept {t:TypeId}{w w':World}{hs:List Value}{rows:List (List P3)}(h:RowsIn t w hs rows)(hk:∀A k r,RdT w t A k 3 (TU r)->RdT w' t A k 3 (TU r)):RowsIn t w' hs rows:=⟨h.1,fun i r hi=>by obtain⟨A,k,c,h1,h2,h3⟩:=h.2 i r hi;exact⟨A,k,c,h1,hk _ _ _ h2,h3⟩⟩
theorem RowsIn.snoc {t:TypeId}{w:World}{hs:List Value}{rows:List (List P3)}(h:RowsIn t w hs rows){A:Option Addr}{k c:Nat}{r:List P3}(hr:RdT w t A k 3 (TU r))(hkc:k<=c):RowsIn t w (hs++[.slice A k c]) (rows++[r]):=by
 refine⟨by simp[h.1],fun i r' hi=> ?_⟩;by_cases hlt:i<rows.length
 ·rw[ag0 hlt] at hi;obtain⟨A',k',c',h1,h2⟩:=h.2 i r' hi;exact⟨A',k',c',by rw[ag0 (by rw[h.1];exact hlt)];exact h1,h2⟩
 have hi2:i=rows.length:=by have:=(agG.1 hi).1;simp at this;omega
 subst hi2;simp at hi;subst hi;exact⟨A,k,c,by rw[<-h.1];simp,hr,hkc⟩
theorem RowsIn.below {t:TypeId}{w w':World}{hs:List Value}{rows:List (List P3)}(h:RowsIn t w hs rows)(hb:Below w.heap.size w w'):RowsIn t w' hs rows:=h.kept fun _ _ _ hr=>hr.below hb
end
section
structure Ins where
 op:Int
 a:Int
 deriving DecidableEq
structure Pt where
 x:Int
 y:Int
 on:Bool
 deriving DecidableEq
structure Part where
 aeT:Int
 x:Int
 y:Int
 deriving DecidableEq
structure ae5 where
 kind:Int
 cls:Int
 x:Int
 y:Int
 deriving DecidableEq
structure Delta where
 region:Int
 point:Int
 x:Int
 y:Int
 deriving DecidableEq
structure aeS where
 name:B
 advance:Int
 mark:Bool
 points:List Pt
 ends:List Int
 parts:List Part
 anchors:List ae5
 deltas:List Delta
 hint:List Ins
 deriving DecidableEq
structure Chr where
 rune:Int
 aeT:Int
 deriving DecidableEq
structure Call where
 at':Int
 lookup:Int
 deriving DecidableEq
structure ae4 where
 back:List (List Int)
 in':List (List Int)
 ahead:List (List Int)
 out:List Int
 calls:List Call
 x:Int
 deriving DecidableEq
structure Lookup where
 kind:Int
 afh:Bool
 rules:List ae4
 deriving DecidableEq
structure afd where
 name:B
 aeO:List Int
 deriving DecidableEq
structure afp where
 name:B
 min':Int
 afk:Int
 max':Int
 deriving DecidableEq
structure afm where
 start:Int
 peak:Int
 stop:Int
 deriving DecidableEq
structure Region where
 ae0:List afm
 deriving DecidableEq
structure Fnt where
 unit:Int
 aeN:List aeS
 chars:List Chr
 aeO:List Lookup
 features:List afd
 aeP:List afp
 regions:List Region
 funcs:List (List Ins)
 cvt:List Int
 deriving DecidableEq
def opNames:List B:=[[112,117,115,104],[112,111,112],[100,117,112],[115,119,97,112],[97,100,100],[115,117,98],[109,117,108],[100,105,118],[110,101,103],[97,98,115],[109,105,110],[109,97,120],[102,108,111,111,114],[99,101,105,108],[114,111,117,110,100],[108,116],[108,101],[101,113],[110,111,116],[97,110,100],[111,114],[112,114,111,106],[102,114,101,101],[109,111,100,101],[99,118,116],[115,101,116,99,118,116],[108,111,97,100],[115,97,118,101],[103,101,116],[111,114,103],[109,111,118,101],[115,101,116],[97,108,105,103,110],[105,110,116,101,114],[106,117,109,112],[106,117,109,112,122],[99,97,108,108,102],[108,111,111,112],[115,105,122,101]]
def anchorNames:List B:=[[98,97,115,101],[109,97,114,107],[101,110,116,114,121],[101,120,105,116]]
def bF:List B:=[[115,105,110,103,108,101],[109,117,108,116,105,112,108,101],[108,105,103,97,116,117,114,101],[99,104,97,105,110],[114,101,118,101,114,115,101],[112,97,105,114],[99,117,114,115,105,118,101],[109,97,114,107,115]]
abbrev mG:B:=[117,110,105,116]
abbrev yD:B:=[97,120,105,115]
abbrev lM:B:=[114,101,103,105,111,110]
abbrev lY:B:=[99,118,116]
abbrev tH:B:=[102,117,110,99]
abbrev iL:B:=[103,108,121,112,104]
abbrev sG:B:=[109,97,114,107]
abbrev iG:B:=[99,111,110,116,111,117,114]
abbrev sU:B:=[112,97,114,116]
abbrev nD:B:=[97,110,99,104,111,114]
abbrev pR:B:=[100,101,108,116,97]
abbrev pJ:B:=[104,105,110,116]
abbrev yC:B:=[99,104,97,114]
abbrev iT:B:=[108,111,111,107,117,112]
abbrev lK:B:=[105,103,110,111,114,101]
abbrev dC:B:=[114,117,108,101]
abbrev lu:B:=[102,101,97,116,117,114,101]
abbrev XF:B:=[99,108,97,115,115]
def pick (l:List B)(n:Int):B:=if n<1 then [63] else(l[(n - 1).toNat]?).getD [63]
def jG (n:Int):B:=pick opNames n
def af (n:Int):B:=Lib.itoa n
def dN (more:List B):B:=more.flatMap (fun w=>32::w)
def ax (first:B)(more:List B):B:=first++dN more++[10]
def bW (i:Ins):B:=jG i.op++if i.a=0 then [] else 58::af i.a
def bM (gs:List aeS)(n:Int):B:=if n<0 then 63::af n else match gs[n.toNat]? with|some g=>g.name|none=>63::af n
def setW (gs:List aeS)(l:List Int):List B:=match l with|[n]=>[bM gs n]|_=>[91]::l.map (bM gs)++[[93]]
def bi (gs:List aeS)(l:List (List Int)):List B:=l.flatMap (setW gs)
def outW (gs:List aeS)(kind:Int)(r:ae4):List B:=
 if kind=1\/kind=2\/kind=3\/kind=5 then r.out.map (bM gs)
 else if kind=4 then r.calls.map (fun c=>af c.at'++58::af c.lookup)
 else if kind=6 then [af r.x] else []
def vM (gs:List aeS)(kind:Int)(r:ae4):List B:=bi gs r.back++[47]::bi gs r.in'++[47]::bi gs r.ahead++[62]::outW gs kind r
def kU (gs:List aeS)(kind:Int)(r:ae4):B:=ax dC (vM gs kind r)
def di (gs:List aeS)(l:Lookup):B:=ax iT (pick bF l.kind::if l.afh then [lK] else [])++l.rules.flatMap (kU gs l.kind)
def iE (p:Pt):B:=af p.x++44::af p.y++if p.on then [] else [42]
def dK (pts:List Pt):Nat->List Int->List (List Pt)
 |_,[]=>[]
 |fr,e::es=>if e<(fr:Int)\/(pts.length:Int)<=e then [] else((pts.take (e.toNat+1)).drop fr)::dK pts (e.toNat+1) es
def dn (gs:List aeS)(g:aeS):B:=
 ax iL (g.name::af g.advance::if g.mark then [sG] else [])++
 (dK g.points 0 g.ends).flatMap (fun c=>ax iG (c.map iE))++
 g.parts.flatMap (fun p=>ax sU [bM gs p.aeT,af p.x,af p.y])++
 g.anchors.flatMap (fun a=>ax nD [pick anchorNames a.kind,af a.cls,af a.x,af a.y])++
 g.deltas.flatMap (fun d=>ax pR [af d.region,af d.point,af d.x,af d.y])++
 if g.hint.isEmpty then [] else ax pJ (g.hint.map bW)
def dF (a:afp):B:=ax yD [a.name,af a.min',af a.afk,af a.max']
def iy (t:afm):List B:=[af t.start,af t.peak,af t.stop]
def bP (r:Region):B:=ax lM (r.ae0.flatMap iy)
def eP (p:List Ins):B:=ax tH (p.map bW)
def jc (gs:List aeS)(c:Chr):B:=ax yC [af c.rune,bM gs c.aeT]
def gy (x:afd):B:=ax lu (x.name::x.aeO.map af)
def gp (f:Fnt):B:=
 ax mG [af f.unit]++
 f.aeP.flatMap dF++
 f.regions.flatMap bP++
 (if f.cvt.isEmpty then [] else ax lY (f.cvt.map af))++
 f.funcs.flatMap eP++
 f.aeN.flatMap (dn f.aeN)++
 f.chars.flatMap (jc f.aeN)++
 f.aeO.flatMap (di f.aeN)++
 f.features.flatMap gy
end
section
open Go.RowKit
def qf (c:UInt8):Bool:=decide (48<=c.toNat) && decide (c.toNat<=57)
def J6 (c:UInt8):Bool:=(decide (65<=c.toNat) && decide (c.toNat<=90))||(decide (97<=c.toNat) && decide (c.toNat<=122))||c==95||c==46
theorem Zv (c d:UInt8):(c==d)=decide (c.toNat=d.toNat):=by rw[Bool.eq_iff_iff];simp[UInt8.toNat_inj]
def vJ (Y:Act->World->Prop):Exit->Act->World->Prop
 | .normal,a,w=>Y a w
 |_,_,_=>False
theorem JS {P:Program}{o:Oper}{a:Act}{w:World}{K K' Y:Act->World->Prop}{Q:Exit->Act->World->Prop}(h:∀a w,K a w->K' a w)(hh:o.wp P a w K (vJ Y)):o.wp P a w K' Q:=by
 unfold Oper.wp at*
 generalize (execOp a.eval o).run P w=r at*
 cases r with
 |ok n w'=>
  cases n<;>simp only[Oper.upon] at hh ⊢ <;>
   first
    |exact h _ _ hh
    |exact Calls.mono hh (fun e w'' he=>by
      cases e
      ·exact h _ _ he
      ·exact(he:False).elim
      obtain⟨_,_,he⟩:=he;exact(he:False).elim)
    |exact Rows.mono hh (fun _ _ he=>h _ _ he)
 |halt x w'=>cases x<;>simp only[Oper.upon] at hh ⊢ <;>exact(hh:False).elim
def AV (ops:Array Oper):Nat->Nat->Array Bool->Bool
 |0,_,_=>true
 |n+1,k,listed=>(Region.ready .any ops listed==[k]) && AV ops n (k+1) (listed.setIfInBounds k true)
def IZ:Nat->Nat->Array Bool->Array Bool
 |0,_,listed=>listed
 |n+1,k,listed=>IZ n (k+1) (listed.setIfInBounds k true)
theorem Ef {P:Program}{ops:Array Oper}{Q:Exit->Act->World->Prop}{Y:Act->World->Prop}{m:Nat}:∀(l:List Oper) (k:Nat) (listed:Array Bool) (a:Act) (w:World),(∀j o,l[j]? =some o->ops[k+j]? =some o)->AV ops l.length k listed=true->
  (∀a w,Y a w->wpAny P .any ops Q m (IZ l.length k listed) a w)->wpList P ops (vJ Y) l a w->wpAny P .any ops Q (l.length+m) listed a w:=by
 intro l;induction l with
 |nil=>intro k listed a w _ _ hY h;simpa [IZ] using hY a w h
 |cons o l ih=>
  intro k listed a w hl hB hY h;simp only[aV,AV,ag1,beq_iff_eq] at hB;obtain⟨h1,h2⟩:=hB;have h0:ops[k]? =some o:=by simpa using hl 0 o rfl
  have ih':=fun a w=>ih (k+1) (listed.setIfInBounds k true) a w (fun j o' ho=>by have:=hl (j+1) o' (by simpa using ho);rwa [show k+(j+1)=k+1+j by omega] at this) h2 hY
  rw[aV,show l.length+1+m=l.length+m+1 by omega];refine⟨fun e=>(by rw[h1] at e;cases e),fun i hi=> ?_⟩;rw[h1,agF] at hi;subst hi;unfold wpOp;rw[h0];simp only[wpList] at h;show if _ then _ else _
  split
  ·rename_i hw;rw[if_pos hw] at h;rcases h with h|⟨-,_,_,h⟩
   ·exact .inl (JS (fun a w=>ih' a w) h)
   exact(h:False).elim
  rename_i hw;rw[if_neg hw] at h;exact ih' _ _ h
theorem EZ {P:Program}{id:Nat}{Q:Exit->Act->World->Prop}{a:Act}{w:World}{l:List Oper}(n:Nat)(hm:P.follows .mixedOrders=true)(hs:Region.noSelect l.toArray=true)(h1:AV l.toArray (l.take n).length 0 (Array.replicate l.length false)=true)(h2:Region.lexFrom .any l.toArray (l.drop n).length n (IZ (l.take n).length 0 (Array.replicate l.length false))=true)
  (h:wpList P l.toArray (vJ fun a w=>∃S:World->Prop,S w/\wpQuiet P l.toArray (fun w'=>∃x:WIn S,w'=x.w) (fun a'=>∀w',(∃x:WIn S,w'=x.w)->Q .normal a' w') (l.drop n) a) (l.take n) a w.drew):(Code.region id l.toArray true).wp P Q a w:=by
 refine wp_region_any hm ?_;have key:=Ef (P:=P) (ops:=l.toArray) (Q:=Q) (m:=(l.drop n).length) (l.take n) 0 (Array.replicate l.length false) a w.drew (fun j o ho=>by
  rw[ag6] at ho;split at ho
  ·simpa using ho
  cases ho) h1 (fun a w hY=>by
  obtain⟨S,hS,hq⟩:=hY;refine wpAny_of_quiet (C:=fun w'=>∃x:WIn S,w'=x.w) (Q:=fun a'=>∀w',(∃x:WIn S,w'=x.w)->Q .normal a' w') (fun _ w' hw' h=>h w' hw') _ _ _ _ ⟨⟨w,hS⟩,rfl⟩ ?_;exact wpAnyQ_lex (md:= .any) hs (l.drop n) n _ _ (fun j=>by simp[List.getElem?_drop]) h2 hq) h
 have e:(l.take n).length+(l.drop n).length=l.length:=by rw[<-la,ag9]
 rw[e] at key;simpa using key
abbrev Bs:=Nat->Prop
abbrev Rel (α:Type):=World->Bs->List Value->α->Prop
def Same (S:Bs)(w w':World):Prop:=∀b,S b->w'.heap[b]? =w.heap[b]?
theorem Same.refl (S:Bs)(w:World):Same S w w:=fun _ _=>rfl
theorem Same.trans {S:Bs}{a b c:World}(h:Same S a b)(k:Same S b c):Same S a c:=fun x hx=>(k x hx).trans (h x hx)
theorem Same.sub {S S':Bs}{a b:World}(h:Same S' a b)(hs:∀x,S x->S' x):Same S a b:=fun x hx=>h x (hs x hx)
theorem Same.cell {S:Bs}{w w':World}(h:Same S w w'){b o:Nat}{v:Value}(hb:S b)(hc:w.cell? ⟨b,o,none⟩=some v):w'.cell? ⟨b,o,none⟩=some v:=(World.cell?_of_block (a:=⟨b,o,none⟩) (h b hb)).trans hc
structure Rel.Ok {α:Type}(R:Rel α):Prop where
 keep:∀ {w w':World} {S:Bs} {cs:List Value} {x:α},R w S cs x->Same S w w'->R w' S cs x
 mono:∀ {w:World} {S S':Bs} {cs:List Value} {x:α},R w S cs x->(∀b,S b->S' b)->R w S' cs x
def Fl {α:Type}(R:Rel α)(size:Nat)(w:World)(S:Bs)(cells:List Value)(xs:List α):Prop:=cells.length=xs.length*size/\∀k x,xs[k]? =some x->∃cs,R w S cs x/\cs.length=size/\∀j u,cs[j]? =some u->cells[k*size+j]? =some u
def Sl {α:Type}(R:Rel α)(size:Nat)(w:World)(S:Bs)(A:Option Addr)(xs:List α):Prop:=∃cells,Fl R size w S cells xs/\(0<xs.length->∃b o,A=some ⟨b,o,none⟩/\S b/\∀j u,cells[j]? =some u->w.cell? ⟨b,o+j,none⟩=some u)
def SlV {α:Type}(R:Rel α)(size:Nat):Rel (List α):=fun w S cs xs=>∃A c,cs=[.slice A xs.length c]/\Sl R size w S A xs
section
variable {α:Type} {R:Rel α} {size:Nat} {w w':World} {S S':Bs} {cells:List Value} {xs:List α} {A:Option Addr}
theorem Fl.keep (ok:R.Ok)(h:Fl R size w S cells xs)(hs:Same S w w'):Fl R size w' S cells xs:=⟨h.1,fun k x hx=>by obtain⟨cs,h1,h2,h3⟩:=h.2 k x hx;exact⟨cs,ok.keep h1 hs,h2,h3⟩⟩
theorem Fl.mono (ok:R.Ok)(h:Fl R size w S cells xs)(hs:∀b,S b->S' b):Fl R size w S' cells xs:=⟨h.1,fun k x hx=>by obtain⟨cs,h1,h2,h3⟩:=h.2 k x hx;exact⟨cs,ok.mono h1 hs,h2,h3⟩⟩
theorem Sl.keep (ok:R.Ok)(h:Sl R size w S A xs)(hs:Same S w w'):Sl R size w' S A xs:=by obtain⟨cells,h1,h2⟩:=h;refine⟨cells,h1.keep ok hs,fun h0=> ?_⟩;obtain⟨b,o,e,hb,hc⟩:=h2 h0;exact⟨b,o,e,hb,fun j u hu=>hs.cell hb (hc j u hu)⟩
theorem Sl.mono (ok:R.Ok)(h:Sl R size w S A xs)(hs:∀b,S b->S' b):Sl R size w S' A xs:=by obtain⟨cells,h1,h2⟩:=h;refine⟨cells,h1.mono ok hs,fun h0=> ?_⟩;obtain⟨b,o,e,hb,hc⟩:=h2 h0;exact⟨b,o,e,hs b hb,hc⟩
theorem SlV.ok (ok:R.Ok):(SlV R size).Ok:=⟨fun⟨A,c,e,h⟩ hs=>⟨A,c,e,h.keep ok hs⟩,fun⟨A,c,e,h⟩ hs=>⟨A,c,e,h.mono ok hs⟩⟩
theorem Sl.get (h:Sl R size w S A xs){k:Nat}(hk:k<xs.length):
  ∃b o x cs,A=some ⟨b,o,none⟩/\S b/\Hid (xs[k]? =some x)/\R w S cs x/\cs.length=size/\∀j u,cs[j]? =some u->w.cell? ⟨b,o+k*size+j,none⟩=some u:=by
 obtain⟨cells,h1,h2⟩:=h;obtain⟨b,o,e,hb,hc⟩:=h2 (by omega);have hx:xs[k]? =some xs[k]:=agH hk;obtain⟨cs,r1,r2,r3⟩:=h1.2 k _ hx;exact⟨b,o,_,cs,e,hb,hx,r1,r2,fun j u hu=>by rw[Nat.add_assoc];exact hc _ _ (r3 j u hu)⟩
theorem Fl.nil:Fl R size w S [] []:=⟨by simp,fun k x h=>by simp at h⟩
theorem Sl.nil:Sl R size w S A []:=⟨[],Fl.nil,fun h=>absurd h (by simp)⟩
theorem Fl.append {cells2:List Value}{ys:List α}(h:Fl R size w S cells xs)(k:Fl R size w S cells2 ys):Fl R size w S (cells++cells2) (xs++ys):=by
 refine⟨by simp[h.1,k.1,ahq],fun i x hx=> ?_⟩;by_cases hi:i<xs.length
 ·rw[ag0 hi] at hx;obtain⟨cs,r1,r2,r3⟩:=h.2 i x hx;refine⟨cs,r1,r2,fun j u hu=> ?_⟩;have hj:=r3 j u hu;rw[ag0 (agG.1 hj).1];exact hj
 rw[agZ (by omega)] at hx;obtain⟨cs,r1,r2,r3⟩:=k.2 _ x hx;refine⟨cs,r1,r2,fun j u hu=> ?_⟩;have hj:=r3 j u hu;have he:xs.length*size+(i - xs.length)*size=i*size:=by rw[<-ahq];congr 1;omega
 rw[agZ (by rw[h.1];omega),h.1,show i*size+j - xs.length*size=(i - xs.length)*size+j by omega];exact hj
theorem Fl.one {cs:List Value}{x:α}(h:R w S cs x)(hl:cs.length=size):Fl R size w S cs [x]:=by
 refine⟨by simp[hl],fun k y hy=> ?_⟩;cases k with
 |zero=>simp at hy;subst hy;exact⟨cs,h,hl,fun j u hu=>by simpa using hu⟩
 |succ k=>simp at hy
theorem Fl.snoc {cs:List Value}{x:α}(h:Fl R size w S cells xs)(k:R w S cs x)(hl:cs.length=size):Fl R size w S (cells++cs) (xs++[x]):=h.append (Fl.one k hl)
theorem Sl.afr {base n c:Nat}{e:TypeId}(h:w.ownsRow base e size (.slice A n c) n cells)(hf:Fl R size w S cells xs)(hS:∀b cur,Bk w b e cur->S b)(hsz:0<size):Sl R size w S A xs:=by
 refine⟨cells,hf,fun h0=> ?_⟩;rcases h.2 with⟨h1,h2⟩|⟨g,cap,cur,h1,hb,hh,hn,-⟩
 ·have h3:=h.1;have h4:=hf.1;subst h2;simp only[Nat.zero_mul,List.length_eq_zero_iff] at h3;subst h3;have:=Nat.mul_pos h0 hsz;rw[<-h4] at this;simp at this
 simp only[ahr,true_and] at h1;obtain⟨rfl,rfl⟩:=h1;refine⟨g,0,rfl,hS g cur hh,fun j u hu=> ?_⟩;have:=h.cells (g:=g) rfl j u hu
 rwa [addr_add] at this
end
end
section
open Go.RowKit
def AA (d:B):Nat:=d.foldl (fun n c=>10*n+(c.toNat - 48)) 0
def FQ (d:B):Bool:=d.all qf && decide (1<=d.length/\d.length<=9)
def oz (s:B):B:=match s with|45::r=>r|s=>s
def signed (s:B):Bool:=match s with|45::_=>true|_=>false
def fO (s:B):Int:=if FQ (oz s) then(if signed s then -(AA (oz s):Int) else(AA (oz s):Int)) else 0
def FK (s:B):Bool:=FQ (oz s)
theorem EG (d:B)(c:UInt8):AA (d++[c])=10*AA d+(c.toNat - 48):=by simp[AA]
theorem QE (k:Nat):10 ^ (k+1)=10*10 ^ k:=by rw[Nat.pow_succ,Nat.mul_comm]
theorem Q7 (d:B)(h:∀c∈d,qf c=true)(h1:1<=d.length)(h2:d.length<=9):FQ d=true:=by rw[FQ,ag1,ahc];exact⟨h,by simp;omega⟩
theorem FN (s:B):(∃r,s=45::r/\oz s=r/\signed s=true)\/(oz s=s/\signed s=false/\∀r,s≠45::r):=by
 unfold oz signed;split
 ·exact .inl ⟨_,rfl,rfl,rfl⟩
 rename_i h;exact .inr ⟨rfl,rfl,h⟩
theorem uI (c:UInt8):qf c=true ↔ 48<=c.toNat/\c.toNat<=57:=by simp[qf]
def nameAt (i:Nat)(c:UInt8):Bool:=J6 c||(decide (i≠0) && (qf c||c==45))
def nameB (s:B):Bool:=decide (0<s.length/\s.length<=16) && (List.range s.length).all (fun i=>nameAt i (s[i]?.getD 0))
theorem byte_at (s:B)(k:Nat)(c:UInt8)(h:s[k]? =some c)(hk:k<(ByteArray.mk s.toArray).size):(ByteArray.mk s.toArray)[k]'hk=c:=by obtain⟨h1,h2⟩:=agG.1 h;rw[<-h2];rfl
theorem Tc (s:B)(k:Nat)(c:UInt8)(h:s[k]? =some c)(hn:nameAt k c=false):nameB s=false:=by rw[nameB,Bool.and_eq_false_iff];right;obtain⟨h1,h2⟩:=agG.1 h;rw[List.all_eq_false];exact⟨k,by simpa using h1,by simp[h,hn]⟩
theorem Ej (s:B)(h:∀j c,j<s.length->s[j]? =some c->nameAt j c=true):nameB s=decide (0<s.length/\s.length<=16):=by
 rw[nameB];have:((List.range s.length).all fun i=>nameAt i (s[i]?.getD 0))=true:=by
  rw[ahc];intro i hi;have hi':i<s.length:=by simpa using hi
  rw[agH hi'];exact h i _ hi' (agH hi')
 rw[this,Bool.and_true]
theorem qJ (k:Nat)(c:UInt8):nameAt k c=true ↔ (65<=c.toNat/\c.toNat<=90)\/(97<=c.toNat/\c.toNat<=122)\/c.toNat=95\/c.toNat=46\/(k≠0/\((48<=c.toNat/\c.toNat<=57)\/c.toNat=45)):=by simp[nameAt,J6,qf,Zv];omega
end
section
def BJ (gs:List aeS)(i:Nat):List Int:=match gs[i]? with|some g=>g.parts.map (·.aeT)|none=>[]
def vO (gs:List aeS)(i p:Nat):Prop:=(p:Int)∈BJ gs i
def YL (gs:List aeS):Nat->Nat->Nat->Prop
 |0,i,q=>vO gs i q
 |n+1,i,q=>∃p,vO gs i p/\YL gs n p q
def Way (gs:List aeS)(i q:Nat):Prop:=∃n,YL gs n i q
theorem Way.one {gs:List aeS}{i p:Nat}(h:vO gs i p):Way gs i p:=⟨0,h⟩
theorem Way.more {gs:List aeS}{i p q:Nat}(h:vO gs i p)(k:Way gs p q):Way gs i q:=by obtain⟨n,k⟩:=k;exact⟨n+1,p,h,k⟩
def Shut (gs:List aeS)(t:Nat)(M:Nat->Prop):Prop:=∀j,M j->∀p,vO gs j p->p≠t/\M p
theorem Shut.way {gs:List aeS}{t:Nat}{M:Nat->Prop}(h:Shut gs t M){j q:Nat}(hj:M j)(w:Way gs j q):q≠t/\M q:=by
 obtain⟨n,w⟩:=w;induction n generalizing j with
 |zero=>exact h _ hj _ w
 |succ n ih=>obtain⟨p,k,w⟩:=w;exact ih (h _ hj _ k).2 w
def Acy (gs:List aeS):Prop:=∀i,i<gs.length->¬Way gs i i
theorem UO {gs:List aeS}{i:Nat}{M:Nat->Prop}(hs:Shut gs i M)(hk:∀p,vO gs i p->p≠i/\M p):¬Way gs i i:=fun w=>by
 obtain⟨n,w⟩:=w;cases n with
 |zero=>exact(hk _ w).1 rfl
 |succ n=>obtain⟨p,h,k⟩:=w;exact(hs.way (hk _ h).2 ⟨n,k⟩).1 rfl
theorem filter_lt {l:List Nat}{P Q:Nat->Bool}(h:∀x,P x=true->Q x=true){x:Nat}(hx:x∈l)(hq:Q x=true)(hp:P x=false):(l.filter P).length<(l.filter Q).length:=by
 induction l with
 |nil=>simp at hx
 |cons a r ih=>
  have hle:∀m:List Nat,(m.filter P).length<=(m.filter Q).length:=by
   intro m;induction m with
   |nil=>simp
   |cons b m ih=>
    rw[List.filter_cons,List.filter_cons];by_cases hb:P b=true
    ·rw[if_pos hb,if_pos (h b hb),aV,aV];omega
    rw[if_neg hb];split
    ·rw[aV];omega
    exact ih
  rw[List.filter_cons,List.filter_cons];rw[agQ] at hx;rcases hx with rfl|hx
  ·rw[if_neg (by simp[hp]),if_pos hq,aV];have:=hle r;omega
  have:=ih hx;by_cases hb:P a=true
  ·rw[if_pos hb,if_pos (h a hb),aV,aV];omega
  rw[if_neg hb];split
  ·rw[aV];omega
  exact this
theorem Acy.rank {gs:List aeS}(ha:Acy gs):∃r:Nat->Nat,∀i p,p<gs.length->vO gs i p->r p<r i:=by
 refine⟨fun i=>((List.range gs.length).filter (fun j=> @decide (Way gs i j) (Classical.propDecidable _))).length,fun i p hp h=> ?_⟩;exact filter_lt (x:=p) (fun x hx=>by
  simp only[ahs] at hx ⊢;exact .more h hx) (List.mem_range.2 hp) (by simpa using Way.one h) (by simpa using ha p hp)
def qG (m:List Bool):Nat:=(m.filter (fun b=> !b)).length
theorem SE {m:List Bool}{p:Nat}(h:m[p]? =some false):qG (m.set p true)+1=qG m:=by
 induction m generalizing p with
 |nil=>simp at h
 |cons a r ih=>
  cases p with
  |zero=>simp only[agP,ag3] at h;subst h;simp[qG]
  |succ p=>
   rw[agS] at h;have:=ih h;unfold qG at this ⊢;rw[List.set_cons_succ,List.filter_cons,List.filter_cons];split
   ·rw[aV,aV];omega
   exact this
def kW (m:List Bool)(j:Nat):Prop:=m[j]? =some true
structure Found (gs:List aeS)(i t:Nat)(m m':List Bool)(b:Bool):Prop where
 len:m'.length=m.length
 stay:∀j,kW m j->kW m' j
 own:b=false->∀p,vO gs i p->p≠t/\kW m' p
 new:b=false->∀j,kW m' j->kW m j\/∀p,vO gs j p->p≠t/\kW m' p
structure afC (gs:List aeS)(ks:List Int)(t:Nat)(m m':List Bool):Prop where
 len:m'.length=m.length
 stay:∀j,kW m j->kW m' j
 own:∀p:Nat,(p:Int)∈ks->p≠t/\kW m' p
 new:∀j,kW m' j->kW m j\/∀p,vO gs j p->p≠t/\kW m' p
theorem afC.start (gs:List aeS)(t:Nat)(m:List Bool):afC gs [] t m m:=⟨rfl,fun _ h=>h,fun _ h=>by simp at h,fun _ h=> .inl h⟩
theorem afC.old {gs:List aeS}{ks:List Int}{t:Nat}{m m':List Bool}(h:afC gs ks t m m'){p:Nat}(hp:p≠t)(hm:kW m' p):afC gs (ks++[(p:Int)]) t m m':=
 ⟨h.len,h.stay,fun q hq=>by
  rw[agJ,agF] at hq;rcases hq with hq|hq
  ·exact h.own q hq
  have:q=p:=by omega
  subst this;exact⟨hp,hm⟩,h.new⟩
theorem afC.search {gs:List aeS}{ks:List Int}{t:Nat}{m m1 m2:List Bool}(h:afC gs ks t m m1){p:Nat}(hp:p≠t)(hl:p<m1.length)(f:Found gs p t (m1.set p true) m2 false):afC gs (ks++[(p:Int)]) t m m2:=by
 have h1:∀j,kW m1 j->kW m2 j:=fun j hj=>f.stay j (by
  unfold kW at hj ⊢;rw[ahn];split
  ·rename_i e;subst e;simp[hl]
  exact hj)
 have h2:kW m2 p:=f.stay p (by unfold kW;rw[List.getElem?_set_self hl]);refine⟨by rw[f.len,ahm,h.len],fun j hj=>h1 j (h.stay j hj),fun q hq=> ?_,fun j hj=> ?_⟩
 ·rw[agJ,agF] at hq;rcases hq with hq|hq
  ·exact⟨(h.own q hq).1,h1 q (h.own q hq).2⟩
  have:q=p:=by omega
  subst this;exact⟨hp,h2⟩
 rcases f.new rfl j hj with hj|hj
 ·unfold kW at hj;rw[ahn] at hj;split at hj
  ·rename_i e;subst e;exact .inr (f.own rfl)
  rcases h.new j hj with hj|hj
  ·exact .inl hj
  exact .inr fun q hq=>⟨(hj q hq).1,h1 q (hj q hq).2⟩
 exact .inr hj
theorem Found.none {gs:List aeS}{i:Nat}{m m':List Bool}(f:Found gs i i m m' false)(h:∀j,¬kW m j):¬Way gs i i:=UO (M:=kW m') (fun j hj=>(f.new rfl j hj).resolve_left (h j)) (f.own rfl)
end
section
open Go.RowKit
def cnt (p:Nat->Bool):Nat->Nat
 |0=>0
 |n+1=>cnt p n+(p n).toNat
theorem IP {p q:Nat->Bool}:∀n,(∀j,j<n->p j=q j)->cnt p n=cnt q n
 |0,_=>rfl
 |n+1,h=>by simp only[cnt];rw[IP n (fun j hj=>h j (by omega)),h n (by omega)]
theorem JC {p q:Nat->Bool}{i:Nat}(hp:p i=true)(hq:q i=false)(he:∀j,j≠i->p j=q j):∀n,i<n->cnt p n=cnt q n+1
 |0,h=>absurd h (by omega)
 |n+1,h=>by
  simp only[cnt];by_cases e:i=n
  ·subst e;rw[IP i (fun j hj=>he j (by omega)),hp,hq];rfl
  rw[JC hp hq he n (by omega),he n (fun x=>e x.symm)];omega
theorem zN {p:Nat->Bool}:∀n,cnt p n=0->∀j,j<n->p j=false
 |0,_,j,h=>absurd h (by omega)
 |n+1,e,j,h=>by
  simp only[cnt] at e;by_cases hj:j=n
  ·subst hj;cases hp:p j
   ·rfl
   rw[hp] at e;simp at e
  exact zN n (by omega) j (by omega)
theorem Kr {p:Nat->Bool}:∀n,cnt p n≠0->∃j,j<n/\p j=true/\∀k,k<j->p k=false
 |0,h=>absurd rfl h
 |n+1,h=>by
  by_cases e:cnt p n=0
  ·have h0:=zN n e;refine⟨n,by omega,?_,h0⟩;cases hp:p n
   ·simp[cnt,e,hp] at h
   rfl
  obtain⟨j,h1,h2,h3⟩:=Kr n e;exact⟨j,by omega,h2,h3⟩
theorem JR {p:Nat->Bool}:∀n,(∀j,j<n->p j=true)->cnt p n=n
 |0,_=>rfl
 |n+1,h=>by simp only[cnt];rw[JR n (fun j hj=>h j (by omega)),h n (by omega)];rfl
def GN (ops:Array Oper)(n first:Nat):Bool:=
 (List.range ops.size).all fun i=>match ops[i]? with
  |none=>false
  |some o=>o.after.all (fun e=> !Region.binds .any e||decide (e.on<i)) &&
   (if i<n then o.guard.isNone && o.dst==some (first+i) && (List.range (n+1)).any (fun j=>decide (i<j) && ((ops[j]?).map fun q=>q.after.any fun e=>Region.binds .any e && e.on==i).getD false)
   else if n<i then o.after.any (fun e=>Region.binds .any e && decide (n<=e.on)) else true)
def afi (t:Array Value)(first:Nat):List Value->Array Value
 |[]=>t
 |v::vs=>afi (t.setIfInBounds first v) (first+1) vs
theorem AC (vs:List Value):∀(t:Array Value) (first k:Nat),first+vs.length<=t.size->(afi t first vs)[k]? =if first<=k/\k<first+vs.length then vs[k - first]? else t[k]? :=by
 induction vs with
 |nil=>intro t first k _;simp[afi];intro h1 h2;omega
 |cons v vs ih=>
  intro t first k h
  simp only[aV] at h ⊢;rw[afi,ih _ _ _ (by simpa using by omega)];by_cases h1:first+1<=k/\k<first+1+vs.length
  ·rw[if_pos h1,if_pos (by omega),show k - first=(k - (first+1))+1 by omega,agS]
  rw[if_neg h1];by_cases h2:k=first
  ·subst h2;rw[if_pos (by omega),Nat.sub_self,agP,Array.getElem?_setIfInBounds_self_of_lt (by omega)]
  rw[if_neg (by omega),Array.getElem?_setIfInBounds_ne (by omega)]
structure GrI (F:Nat->Value->World->Prop)(ops:Array Oper)(n first:Nat)(a0:Act)(w0:World)(listed:Array Bool)(a:Act)(w:World):Prop where
 low:Below w0.heap.size w0 w
 df:a.defers=a0.defers
 sz:a.tmps.size=a0.tmps.size
 out:∀k,k<first\/first+n<=k->a.tmps[k]? =a0.tmps[k]?
 ins:∀i,i<n->∃v,a.tmps[first+i]? =some v/\(listed.getD i true=true->F i v w)
 ls:listed.size=ops.size
 rest:∀i,n<=i->i<ops.size->listed.getD i true=false
 down:∀(i:Nat) (o:Oper),i<n->ops[i]? =some o->listed.getD i true=true->∀e∈o.after,Region.binds .any e=true->listed.getD e.on true=true
theorem J3 {l:Array Bool}{i:Nat}(h:i<l.size):l.getD i true=l.getD i false:=by simp[h]
theorem qy {l:Array Bool}{i j:Nat}(h:i<l.size):(l.setIfInBounds i true).getD j true=if j=i then true else l.getD j true:=by
 by_cases e:j=i
 ·subst e;simp[h]
 rw[if_neg e,getD_set_ne true (fun x=>e x.symm)]
section
variable {P:Program} {ops:Array Oper} {Q:Exit->Act->World->Prop} {F:Nat->Value->World->Prop} {n first:Nat} {a0:Act} {w0:World}
theorem uG (hc:GN ops n first=true){i:Nat}{o:Oper}(ho:ops[i]? =some o):(∀e∈o.after,Region.binds .any e=true->e.on<i)/\(i<n->o.guard=none/\o.dst=some (first+i)/\∃j q,j<=n/\i<j/\ops[j]? =some q/\∃e∈q.after,Region.binds .any e=true/\e.on=i)/\(n<i->∃e∈o.after,Region.binds .any e=true/\n<=e.on):=by
 have hi:=(agI.1 ho).1;simp only[GN,ahc,List.mem_range] at hc;have h:=hc i hi;simp only[ho,ag1] at h;obtain⟨h1,h2⟩:=h;refine⟨fun e he hb=> ?_,fun hn=> ?_,fun hn=> ?_⟩
 ·have:=Array.all_eq_true_iff_forall_mem.1 h1 e he;simpa [hb] using this
 ·rw[if_pos hn] at h2;simp only[ag1,Option.isNone_iff_eq_none,beq_iff_eq,List.any_eq_true,List.mem_range,ahs] at h2;obtain⟨⟨h3,h4⟩,j,h5,h6,h7⟩:=h2;refine⟨h3,h4,?_⟩;cases hq:ops[j]? with
  |none=>simp[hq] at h7
  |some q=>simp only[hq,Option.map_some,Option.getD_some] at h7;obtain⟨e,he,hb⟩:=Array.any_eq_true'.1 h7;simp only[ag1,beq_iff_eq] at hb;exact⟨j,q,by omega,h6,hq,e,he,hb⟩
 rw[if_neg (by omega),if_pos hn] at h2;obtain⟨e,he,hb⟩:=Array.any_eq_true'.1 h2;simp only[ag1,ahs] at hb;exact⟨e,he,hb⟩
theorem GrI.all {listed:Array Bool}{a:Act}{w:World}(hc:GN ops n first=true)(hI:GrI F ops n first a0 w0 listed a w)(hn:n<ops.size){q:Oper}(hq:ops[n]? =some q)(hr:∀e∈q.after,Region.binds .any e=true->listed.getD e.on true=true):∀j,j<n->listed.getD j true=true:=by
 have key:∀d j,j<n->n - j<=d->listed.getD j true=true:=by
  intro d;induction d with
  |zero=>intro j h1 h2;omega
  |succ d ih=>
   intro j h1 h2;have hj:j<ops.size:=by omega
   obtain⟨-,-,j',q',h3,h4,h5,e,he,hb,hon⟩:=(uG hc (Array.getElem?_eq_getElem hj)).2.1 h1;by_cases h6:j'=n
   ·subst h6;rw[hq] at h5;cases h5;exact hon ▸ hr e he hb
   exact hon ▸ hI.down j' q' (by omega) h5 (ih j' (by omega) (by omega)) e he hb
 exact fun j hj=>key n j hj (by omega)
theorem Sj {m:Nat}(hc:GN ops n first=true)(hn:n<ops.size)(hz:first+n<=a0.tmps.size)
  (hF:∀i v w w',Below w.heap.size w w'->F i v w->F i v w')
  (hstep:∀i o,i<n->ops[i]? =some o->∀a w,(∀k,k<first\/first+n<=k->a.tmps[k]? =a0.tmps[k]?)->Below w0.heap.size w0 w->(∀e∈o.after,Region.binds .any e=true->∃v,a.tmps[first+e.on]? =some v/\F e.on v w)->o.wp P a w (fun a' w'=>∃v,a'=a.put o.dst v/\Below w.heap.size w w'/\F i v w') (vJ fun _ _=>True))
  (hend:∀listed a w,GrI F ops n first a0 w0 listed a w->(∀j,j<n->listed.getD j true=true)->wpAny P .any ops Q m listed a w):
  ∀(d:Nat) (listed:Array Bool) (a:Act) (w:World),cnt (fun i=> !listed.getD i true) n=d->GrI F ops n first a0 w0 listed a w->wpAny P .any ops Q (d+m) listed a w:=by
 intro d;induction d with
 |zero=>intro listed a w hd hI;rw[ahh];exact hend listed a w hI (fun j hj=>by simpa using zN n hd j hj)
 |succ d ih=>
  intro listed a w hd hI;rw[show d+1+m=d+m+1 by omega];obtain⟨j0,hj1,hj2,hj3⟩:=Kr n (p:=fun i=> !listed.getD i true) (by omega);refine⟨fun e=> ?_,fun i hi=> ?_⟩
  ·have hj:j0<ops.size:=by omega
   have:j0∈Region.ready .any ops listed:=mem_ready.2 ⟨by simpa using hj2,_,Array.getElem?_eq_getElem hj,fun e he hb=>by
    have h1:=(uG hc (Array.getElem?_eq_getElem hj)).1 e he hb;rw[<-J3 (by rw[hI.ls];omega)];simpa using hj3 e.on h1⟩
   rw[e] at this;cases this
  obtain⟨h1,o,ho,h2⟩:=mem_ready.1 hi;have hi':=(agI.1 ho).1;have hon:=(uG hc ho).1;have h3:∀e∈o.after,Region.binds .any e=true->listed.getD e.on true=true:=fun e he hb=>by
   rw[J3 (by rw[hI.ls];have:=hon e he hb;omega)];exact h2 e he hb
  have hlt:i<n:=by
   rcases Nat.lt_trichotomy i n with h|h|h
   ·exact h
   ·subst h;have:=hI.all hc hn ho h3 j0 hj1;simp[this] at hj2
   obtain⟨e,he,hb,hle⟩:=(uG hc ho).2.2 h;have h4:=h3 e he hb;rw[hI.rest e.on hle (by have:=hon e he hb;omega)] at h4;cases h4
  obtain⟨hg,hdst,-⟩:=(uG hc ho).2.1 hlt;unfold wpOp;rw[ho];show if _ then _ else _
  rw[if_pos (by simp[Region.wanted,hg])];refine .inl (JS ?_ (hstep i o hlt ho a w hI.out hI.low (fun e he hb=> ?_)))
  ·rintro a' w' ⟨v,rfl,hb,hf⟩;refine ih _ _ _ ?_ ?_
   ·have:=JC (p:=fun j=> !listed.getD j true) (q:=fun j=> !(listed.setIfInBounds i true).getD j true) (i:=i) (by simpa using h1) (by rw[qy (by rw[hI.ls];exact hi')];simp) (fun j hj=>by rw[qy (by rw[hI.ls];exact hi')];simp[hj]) n hlt;omega
   rw[hdst];refine⟨hI.low.trans (hb.mono hI.low.size),hI.df,by simp[Act.put,hI.sz],fun k hk=> ?_,fun j hj=> ?_,by simp[hI.ls],fun j hj hj'=> ?_,fun j q hj hq hl=> ?_⟩
   ·show(a.tmps.setIfInBounds (first+i) v)[k]? =_;rw[Array.getElem?_setIfInBounds_ne (by omega)];exact hI.out k hk
   ·show ∃u,(a.tmps.setIfInBounds (first+i) v)[first+j]? =some u/\_;by_cases e:j=i
    ·subst e;exact⟨v,Array.getElem?_setIfInBounds_self_of_lt (by rw[hI.sz];omega),fun _=>hf⟩
    obtain⟨u,hu,hfu⟩:=hI.ins j hj;refine⟨u,by rw[Array.getElem?_setIfInBounds_ne (by omega)];exact hu,fun hl=> ?_⟩;rw[qy (by rw[hI.ls];exact hi'),if_neg e] at hl;exact hF _ _ _ _ hb (hfu hl)
   ·rw[qy (by rw[hI.ls];exact hi'),if_neg (by omega)];exact hI.rest j hj hj'
   intro e he hb';rw[qy (by rw[hI.ls];exact hi')] at hl ⊢;split
   ·rfl
   by_cases e':j=i
   ·subst e';rw[ho] at hq;cases hq;exact h3 e he hb'
   rw[if_neg e'] at hl;exact hI.down j q hj hq hl e he hb'
  obtain⟨v,hv,hf⟩:=hI.ins e.on (by have:=hon e he hb;omega);exact⟨v,hv,hf (h3 e he hb)⟩
theorem xJ {id:Nat}{l:List Oper}(n first:Nat)(F:Nat->Value->World->Prop)(hm:P.follows .mixedOrders=true)(hc:GN l.toArray n first=true)(hn:n<l.length)(h1:AV l.toArray (l.drop n).length n (Array.replicate n true++Array.replicate (l.drop n).length false)=true)(h2:(Region.ready .any l.toArray (IZ (l.drop n).length n (Array.replicate n true++Array.replicate (l.drop n).length false))).isEmpty=true)(hz:first+n<=a0.tmps.size)
  (hF:∀i v w w',Below w.heap.size w w'->F i v w->F i v w')
  (hstep:∀i o,i<n->l[i]? =some o->∀a w,(∀k,k<first\/first+n<=k->a.tmps[k]? =a0.tmps[k]?)->Below w0.heap.size w0 w->(∀j,(o.after.any fun e=>Region.binds .any e && e.on==j)=true->∃v,a.tmps[first+j]? =some v/\F j v w)->o.wp P a w (fun a' w'=>∃v,a'=a.put o.dst v/\Below w.heap.size w w'/\F i v w') (vJ fun _ _=>True))
  (hend:∀vs w,vs.length=n->Below w0.heap.size w0 w->(∀i v,vs[i]? =some v->F i v w)->wpList P l.toArray (vJ fun a w=>Q .normal a w) (l.drop n) {tmps:=afi a0.tmps first vs,defers:=a0.defers} w):(Code.region id l.toArray true).wp P Q a0 w0:=by
 refine wp_region_any hm ?_;have hld:(l.drop n).length=l.length - n:=by simp
 have h0:∀j,j<l.length->(Array.replicate l.toArray.size false).getD j true=false:=fun j hj=>by simp[hj]
 have key:=Sj (P:=P) (ops:=l.toArray) (Q:=Q) (F:=F) (n:=n) (first:=first) (a0:=a0) (w0:=w0) (m:=(l.drop n).length) hc (by simpa using hn) hz hF (fun i o hi ho a w h3 h4 h5=>hstep i o hi (by simpa using ho) a w h3 h4 (fun j hj=>by
  obtain⟨e,he,hb⟩:=Array.any_eq_true'.1 hj;simp only[ag1,beq_iff_eq] at hb;exact hb.2 ▸ h5 e he hb.1)) (fun listed a w hI hall=> ?_) n (Array.replicate l.toArray.size false) a0 w0.drew (JR n (fun j hj=>by rw[h0 j (by omega)];rfl))
  ⟨(agE _ _).drew,rfl,rfl,fun _ _=>rfl,fun i hi=>⟨_,Array.getElem?_eq_getElem (by omega),fun h=>by rw[h0 i (by omega)] at h;cases h⟩,by simp,fun i _ hi=>h0 i (by simpa using hi),fun i o hi _ h=>by rw[h0 i (by omega)] at h;cases h⟩
 ·rw[hld,show n+(l.length - n)=l.toArray.size by simp;omega] at key;exact key
 have hl:listed=Array.replicate n true++Array.replicate (l.drop n).length false:=by
  refine Array.ext (by rw[hI.ls];simp;omega) (fun j hj hj'=> ?_);have e1:listed.getD j true=listed[j]:=by simp[hj]
  rw[<-e1,Array.getElem_append];by_cases h:j<n
  ·rw[hall j h,dif_pos (by simpa using h)];simp
  rw[hI.rest j (by omega) (by rw[<-hI.ls];exact hj),dif_neg (by simpa using h)];simp
 subst hl
 let vs:List Value:=(List.range n).map fun i=>a.tmps.getD (first+i) undef
 have hvl:vs.length=n:=by simp[vs]
 have ha:a= {tmps:=afi a0.tmps first vs,defers:=a0.defers} :=by
  have e:a.tmps=afi a0.tmps first vs:=by
   refine Array.ext_getElem? (fun k=> ?_);rw[AC _ _ _ _ (by rw[hvl];exact hz),hvl];split
   ·rename_i h;obtain⟨v,hv,-⟩:=hI.ins (k - first) (by omega);rw[show first+(k - first)=k by omega] at hv;rw[hv];simp only[vs,ag5];rw[List.getElem?_range (by omega)];simp[show first+(k - first)=k by omega,hv]
   exact hI.out k (by omega)
  have e2:=hI.df;cases a
  simp_all
 have:=hend vs w hvl hI.low (fun i v hv=>by
  have hi:i<n:=by rw[<-hvl];exact(agG.1 hv).1
  obtain⟨u,hu,hf⟩:=hI.ins i hi;simp only[vs,ag5,List.getElem?_range hi,Option.map_some,ag3] at hv;rw[show v=u by rw[<-hv];simp[hu]];exact hf (hall i hi))
 rw[<-ha] at this;exact Ef (P:=P) (ops:=l.toArray) (Q:=Q) (Y:=fun a w=>Q .normal a w) (m:=0) (l.drop n) n _ a w (fun j o ho=>by rw[List.getElem?_drop] at ho;simpa using ho) h1 (fun a w hY=>⟨by simpa using h2,hY⟩) this
end
end
end Go.Proofs.YtkijckccfookeaaDoor
