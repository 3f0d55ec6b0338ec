/- Lemmas. -/
import Derived.Test.YtkijckccfookeaaDoorW02
import Derived.Test.YtkijckccfookeaaDoorW01
import Derived.Shelf.RegionOpen
import Derived.OwnWalkIn
import Derived.LoopNIn
import Derived.LoopIn
import Derived.Deep.RegionHeld3
import Derived.Lib.OthersKept
set_option linter.unusedVariables false
set_option linter.unusedSimpArgs false
set_option maxRecDepth 100000
set_option maxHeartbeats 32000000
namespace Go.Proofs.YtkijckccfookeaaDoor
section
open Go.RowKit Go.MapKept
structure Emb (κ :Type) where
 emb: κ ->Value
 d:TypeDesc
 inj:∀ {a b},emb a=emb b->a=b
 key:∀a,IsKey d (emb a)
def ZT {κ :Type}(E:Emb κ)(w:World)(b:Nat)(f: κ ->Option Value):Prop:=
 ∃es clock,∃kv:List (κ ×Value),w.heap[b]? =some (.map es clock)/\es.toList.map (fun e=>(e.key,e.val))=kv.map (fun x: κ ×Value=>(E.emb x.1,x.2))/\
  ∀k v,f k=some v ↔ (k,v)∈kv
section
variable {κ :Type} {E:Emb κ} {w w':World} {b:Nat} {f: κ ->Option Value}
theorem ZT.lt (h:ZT E w b f):b<w.heap.size:=by obtain⟨es,clock,kv,h1,_⟩:=h;exact(aa4.1 h1).1
theorem ZT.keep (h:ZT E w b f)(hk:w'.heap[b]? =w.heap[b]?):ZT E w' b f:=by obtain⟨es,clock,kv,h1,h2⟩:=h;exact⟨es,clock,kv,hk.trans h1,h2⟩
theorem ZT.below (h:ZT E w b f)(hb:Below w.heap.size w w'):ZT E w' b f:=h.keep (hb.block b h.lt)
theorem ZT.grown (h:ZT E w b f){row:Option Nat}(hg:w.grownBy w' row)(hne:some b≠row):ZT E w' b f:=h.keep (hg.block b h.lt hne)
theorem ZT.drewN (h:ZT E w b f)(n:Nat):ZT E (w.drewN n) b f:=h
theorem ZT.drew (h:ZT E w b f):ZT E w.drew b f:=h
theorem ZT.new (E:Emb κ)(w:World):ZT E (w.alloc (.map #[] 0)) w.heap.size (fun _=>none):=⟨#[],0,[],heap_alloc_new w _,rfl,by simp⟩
theorem ZT.congr (h:ZT E w b f){g: κ ->Option Value}(hg:∀k,g k=f k):ZT E w b g:=by obtain⟨es,clock,kv,h1,h2,h3⟩:=h;exact⟨es,clock,kv,h1,h2,fun k v=>by rw[hg];exact h3 k v⟩
theorem ZT.find {P:Program}{K:TypeId}(h:ZT E w b f)(hK:P.underlying K=some E.d)(k: κ):
  ∃es clock,w.heap[b]? =some (.map es clock)/\((f k=none/\(Instr.findKey K (E.emb k) es.toList).run P w= .ok none w)\/∃v j,f k=some v/\(Instr.findKey K (E.emb k) es.toList).run P w= .ok (some (j,v)) w):=by
 obtain⟨es,clock,kv,h1,h2,h3⟩:=h;refine⟨es,clock,h1,?_⟩;have hks:∀x∈es.toList,IsKey E.d x.key:=by
  intro x hx;have:(x.key,x.val)∈es.toList.map (fun e=>(e.key,e.val)):=abv.2 ⟨x,hx,rfl⟩;rw[h2,abv] at this;obtain⟨y,_,hy⟩:=this;injection hy with hy1 hy2
  rw[<-hy1];exact E.key _
 rcases findNow_spec (d:=E.d) (E.key k) es.toList 0 hks with⟨g1,g2⟩|⟨j,e,g1,g2,g3⟩
 ·refine .inl ⟨?_,run_findKey hK g1⟩;cases hf:f k with
  |none=>rfl
  |some v=>
   have hm:=(h3 k v).1 hf;have:(E.emb k,v)∈kv.map (fun x: κ ×Value=>(E.emb x.1,x.2)):=abv.2 ⟨(k,v),hm,rfl⟩;rw[<-h2,abv] at this;obtain⟨x,hx,hy⟩:=this;injection hy with hy1 hy2
   exact absurd hy1 (g2 x hx)
 refine .inr ⟨e.val,0+j,?_,run_findKey hK g1⟩;have he:e∈es.toList:=aa8 g2;have:(e.key,e.val)∈es.toList.map (fun e=>(e.key,e.val)):=abv.2 ⟨e,he,rfl⟩;rw[h2,abv] at this;obtain⟨y,hy,hy2⟩:=this;injection hy2 with hy3 hy4
 have:y.1=k:=E.inj (hy3.trans g3);rw[h3];rw[<-this,<-hy4];exact hy
theorem ZT.put [DecidableEq κ]{P:Program}{T K El:TypeId}(h:ZT E w b f)(hT:P.underlying T=some (.map K El))(hK:P.underlying K=some E.d)(k: κ)(v:Value)(hn:f k=none):
  ∃w',(Instr.mapUpdate T (.map (some b)) (E.emb k) v).run P w= .ok () w'/\ZT E w' b (fun t=>if t=k then some v else f t)/\w.grownBy w' (some b):=by
 obtain⟨es0,Wq,g1,g2⟩:=h.find hK k;obtain⟨es,clock,kv,h1,h2,h3⟩:=h;rw[h1] at g1;injection g1 with g1
 injection g1 with g1 g1'
 subst g1 g1';rcases g2 with⟨_,g3⟩|⟨v',j,g3,_⟩
 ·refine⟨{w with heap:=w.heap.setIfInBounds b (.map (es.push ⟨E.emb k,v,clock⟩) (clock+1))},?_,⟨es.push ⟨E.emb k,v,clock⟩,clock+1,kv++[(k,v)],(heap_set h1).1,?_,?_⟩,⟨rfl,rfl,rfl,by simp,fun i hi hne=>(heap_set h1).2 i (fun e=>hne (by rw[e]))⟩⟩
  ·simp[Instr.mapUpdate,run_underlying hT,MapKept.run_getObj_map h1,MapKept.run_checkKey hK (E.key k),g3,MapKept.run_setObj_map _ h1,Result.andThen]
  ·simp[h2]
  intro t u;rw[aa5,aa1,abM];show((if t=k then some v else f t)=some u) ↔ _;by_cases ht:t=k
  ·subst ht;rw[if_pos rfl];constructor
   ·intro e;injection e with e;exact .inr ⟨rfl,e.symm⟩
   rintro(e|⟨_,rfl⟩)
   ·rw[(h3 t u).2 e] at hn;cases hn
   rfl
  rw[if_neg ht,h3];simp[ht]
 rw[hn] at g3;cases g3
end
end
section
structure PS where
 f:Fnt
 unit:Bool
 ZO:List (B×List Int)
def f0:Fnt:=⟨0,[],[],[],[],[],[],[],[]⟩
def ps0:PS:=⟨f0,false,[]⟩
abbrev Gl:=List (B×Nat)
def ed:Nat->List (List B)->Gl
 |_,[]=>[]
 |n,l::ls=>
  match l with
  |w::r=>if w=bP then(match r with|v::_=>if nameB v then [(v,n)] else []|[]=>[])++ed (n+1) ls else ed n ls
  |[]=>ed n ls
theorem Ec (n:Nat)(L:List (List B)):ed n ([]::L)=ed n L:=rfl
def EC (n:Nat)(r:List B):Gl:=match r with|v::_=>if nameB v then [(v,n)] else []|[]=>[]
theorem qX (n:Nat)(w:B)(r:List B)(L:List (List B)):ed n ((w::r)::L)=if w=bP then EC n r++ed (n+1) L else ed n L:=by rw[ed.eq_def];cases r<;>rfl
def fZ (e:Int)(t:B):Int:=if e=0/\xU t=false then 21 else e
def mf (e:Int)(t:B):Int:=if e=0/\nameB t=false then 23 else e
def AU (gl:Gl)(e:Int)(t:B):Int:=if e=0/\(gl.lookup t).isNone=true then 23 else e
def tC (gl:Gl)(t:B):Int:=((gl.lookup t).getD 0:Nat)
def ku (e:Int)(l:List B):Int:=l.foldl fZ e
def Di (gl:Gl)(e:Int)(l:List B):Int:=l.foldl (AU gl) e
def lh (c:UInt8)(t:B):B:=t.takeWhile (· !=c)
def mG (c:UInt8)(t:B):B:=(t.dropWhile (· !=c)).drop 1
def Eg (t:B):Int:=if t∈opNames then(opNames.findIdx (· ==t):Int)+1 else 0
def mi (l:List B)(t:B):Int:=if t∈l then(l.findIdx (· ==t):Int)+1 else 0
def Bf (e:Int)(t:B):Int:=if t.contains 58 then fZ (if e=0/\Eg (lh 58 t)=0 then 23 else e) (mG 58 t) else if e=0/\Eg (lh 58 t)=0 then 23 else e
def BC (t:B):Ins:=⟨Eg (lh 58 t),if t.contains 58 then dD (mG 58 t) else 0⟩
def xP (l:List B):Bool:=l.all (fun t=>t.count 58<=1)
def uV (t:B):Bool:=t.count 44==1 && (!t.contains 42||t.idxOf 42==t.length - 1)
def kD (t:B):B:=if t.getLast? =some 42 then t.dropLast else t
def Gi (e:Int)(t:B):Int:=fZ (fZ e (lh 44 (kD t))) (mG 44 (kD t))
def FP (t:B):Pt:=⟨dD (lh 44 (kD t)),dD (mG 44 (kD t)),t.getLast? !=some 42⟩
def vM (l:List B):Bool:=l.all (fun t=>t.count 58==1)
def xN (e:Int)(t:B):Int:=fZ (fZ e (lh 58 t)) (mG 58 t)
def xW (t:B):Call:=⟨dD (lh 58 t),dD (mG 58 t)⟩
def dC:Bool->List B->List (List B)->List B->Option (List (List B))
 |op,_,told,[]=>if op then none else some told
 |op,row,told,w::r=>
  if w=[91] then(if op then none else dC true [] told r)
  else if w=[93] then(if op then dC false [] (told++[row]) r else none)
  else if op then dC true (row++[w]) told r
  else dC false [] (told++[[w]]) r
def oD (ws:List B):Option (List (List B)):=dC false [] [] ws
def yG (gl:Gl)(ZO:List (B×List Int))(t:B):Except Int (List Int):=
 match t with
 |64::r=>match ZO.lookup r with|some c=> .ok c|none=> .error 23
 |_=>match gl.lookup t with|some n=> .ok [(n:Int)]|none=> .error 23
def qH (gl:Gl)(ZO:List (B×List Int)):List Int->List B->Except Int (List Int)
 |acc,[]=> .ok acc
 |acc,t::r=>match yG gl ZO t with
  | .error e=> .error e
  | .ok c=>if 1000<(acc++c).length then .error 2 else qH gl ZO (acc++c) r
def mW (gl:Gl)(ZO:List (B×List Int)):List (List B)->Except Int (List (List Int))
 |[]=> .ok []
 |l::r=>match qH gl ZO [] l with
  | .error e=> .error e
  | .ok x=>match mW gl ZO r with| .error e=> .error e| .ok xs=> .ok (x::xs)
def yh (n:Int):List Int->List Int
 |[]=>[n]
 |x::r=>if n<x then n::x::r else if n=x then x::r else x::yh n r
def setOf (l:List Int):List Int:=l.foldr yh []
abbrev Ans:=Except Int PS
def fin (e:Int)(s:PS):Ans:=if e=0 then .ok s else .error e
def DJ (s:PS)(l:List B):Ans:=
 match l with
 |[t]=>if fZ 0 t≠0 then .error (fZ 0 t) else if s.unit then .error 24 else .ok {s with unit:=true,f:= {s.f with unit:=dD t}}
 |_=> .error 22
def DF (s:PS)(l:List B):Ans:=
 match l with
 |[n,a,b,c]=>fin (fZ (fZ (fZ (mf 0 n) a) b) c) {s with f:= {s.f with ZA:=s.f.ZA++[⟨n,dD a,dD b,dD c⟩]}}
 |_=> .error 22
def qO:List Int->List aag
 |a::b::c::r=>⟨a,b,c⟩::qO r
 |_=>[]
def vC (s:PS)(l:List B):Ans:=if l.length % 3≠0 then .error 22 else fin (ku 0 l) {s with f:= {s.f with regions:=s.f.regions++[⟨qO (l.map dD)⟩]}}
def IG (s:PS)(l:List B):Ans:=fin (ku 0 l) {s with f:= {s.f with ZB:=s.f.ZB++l.map dD}}
def DL (s:PS)(l:List B):Ans:=if xP l=false then .error 22 else fin (l.foldl Bf 0) {s with f:= {s.f with funcs:=s.f.funcs++[l.map BC]}}
def Oz (gl:Gl)(s:PS)(l:List B):Ans:=
 match l with
 |[]=> .error 22
 |n::r=>match oD r with
  |some [row]=>if mf 0 n≠0 then .error (mf 0 n) else match qH gl s.ZO [] row with
   | .error e=> .error e
   | .ok g=>if(s.ZO.lookup n).isSome then .error 24 else .ok {s with ZO:=s.ZO++[(n,g)]}
  |_=> .error 22
def yu (gl:Gl)(s:PS)(l:List B):Ans:=
 match l with
 |n::a::r=>if r=[]\/r=[lV] then
   (if fZ (mf 0 n) a≠0 then .error (fZ (mf 0 n) a) else if tC gl n≠s.f.Zt.length then .error 24
   else .ok {s with f:= {s.f with Zt:=s.f.Zt++[⟨n,dD a,!r.isEmpty,[],[],[],[],[],[]⟩]}})
  else .error 22
 |_=> .error 22
def lN (s:PS)(h:Zy->Zy):PS:= {s with f:= {s.f with Zt:=s.f.Zt.dropLast++(s.f.Zt.getLast?.map h).toList}}
def sN (s:PS)(l:List B):Ans:=
 if s.f.Zt=[] then .error 22 else if l=[]\/l.all uV=false then .error 22
 else fin (l.foldl Gi 0) (lN s fun g=> {g with points:=g.points++l.map FP,ends:=g.ends++[((g.points.length+l.length:Nat):Int) - 1]})
def CS (gl:Gl)(s:PS)(l:List B):Ans:=
 if s.f.Zt=[] then .error 22 else
 match l with
 |[n,x,y]=>fin (fZ (fZ (AU gl 0 n) x) y) (lN s fun g=> {g with parts:=g.parts++[⟨tC gl n,dD x,dD y⟩]})
 |_=> .error 22
def wG (s:PS)(l:List B):Ans:=
 if s.f.Zt=[] then .error 22 else
 match l with
 |[n,c,x,y]=>if mi anchorNames n=0 then .error 22 else fin (ku 0 [c,x,y]) (lN s fun g=> {g with anchors:=g.anchors++[⟨mi anchorNames n,dD c,dD x,dD y⟩]})
 |_=> .error 22
def zn (s:PS)(l:List B):Ans:=
 if s.f.Zt=[] then .error 22 else
 match l with
 |[r,p,x,y]=>fin (ku 0 [r,p,x,y]) (lN s fun g=> {g with deltas:=g.deltas++[⟨dD r,dD p,dD x,dD y⟩]})
 |_=> .error 22
def DX (s:PS)(l:List B):Ans:=
 if s.f.Zt=[] then .error 22 else if xP l=false then .error 22
 else fin (l.foldl Bf 0) (lN s fun g=> {g with hint:=g.hint++l.map BC})
def CZ (gl:Gl)(s:PS)(l:List B):Ans:=
 match l with
 |[c,n]=>fin (AU gl (fZ 0 c) n) {s with f:= {s.f with chars:=s.f.chars++[⟨dD c,tC gl n⟩]}}
 |_=> .error 22
def sD (s:PS)(l:List B):Ans:=
 match l with
 |n::r=>fin (ku (mf 0 n) r) {s with f:= {s.f with features:=s.f.features++[⟨n,r.map dD⟩]}}
 |[]=> .error 22
def uQ (s:PS)(l:List B):Ans:=
 match l with
 |k::r=>if r=[]\/r=[iK] then(if mi aK k=0 then .error 22 else .ok {s with f:= {s.f with Zu:=s.f.Zu++[⟨mi aK k,!r.isEmpty,[]⟩]}}) else .error 22
 |[]=> .error 22
def gG:Nat->List B->List (List B)->List B->Option (List (List B))
 |n,cur,told,[]=>if n=3 then some (told++[cur]) else none
 |n,cur,told,w::r=>
  if w≠[47]/\w≠[62] then gG n (cur++[w]) told r
  else if(n<2/\w=[47])\/(n=2/\w=[62]) then gG (n+1) [] (told++[cur]) r else none
def uj (l:List B):Option (List (List B)):=gG 0 [] [] l
def jI (kind:Int)(l:List B):Bool:=if kind=4 then vM l else if kind=6 then l.length==1 else if kind=7\/kind=8 then l.length==0 else true
def ng (s:PS)(h:Lookup->Lookup):PS:= {s with f:= {s.f with Zu:=s.f.Zu.dropLast++(s.f.Zu.getLast?.map h).toList}}
def uU (written names:List Int):Except Int (List Int):=
 if ¬written.Nodup then .error 24 else if names.length≠written.length then .error 22
 else .ok ((setOf written).map (fun g=>names.getD (written.idxOf g) 0))
def xM (gl:Gl)(s:PS)(l:List B):Ans:=
 match s.f.Zu.getLast? with
 |none=> .error 22
 |some lk=>match uj l with
  |some [p0,p1,p2,p3]=>match oD p0,oD p1,oD p2 with
   |some w0,some w1,some w2=>
    if(lk.kind=1\/lk.kind=5)/\w1.length≠1 then .error 22 else if jI lk.kind p3=false then .error 22 else
    match mW gl s.ZO w0 with
    | .error e=> .error e
    | .ok b=>match mW gl s.ZO w1 with
     | .error e=> .error e
     | .ok i=>match mW gl s.ZO w2 with
      | .error e=> .error e
      | .ok a=>
       let plain:=lk.kind=1\/lk.kind=2\/lk.kind=3\/lk.kind=5
       let e:=if plain then Di gl 0 p3 else if lk.kind=4 then p3.foldl xN 0 else if lk.kind=6 then ku 0 p3 else 0
       if e≠0 then .error e else
       let out:=if plain then p3.map (tC gl) else []
       let r:Z8:=⟨b.map setOf,i.map setOf,a.map setOf,out,if lk.kind=4 then p3.map xW else [],if lk.kind=6 then dD (p3.headD []) else 0⟩
       if lk.kind=1\/lk.kind=5 then(match uU (i.headD []) out with
        | .error e=> .error e
        | .ok o=> .ok (ng s fun lk=> {lk with rules:=lk.rules++[{r with out:=o}]}))
       else .ok (ng s fun lk=> {lk with rules:=lk.rules++[r]})
   |_,_,_=> .error 22
  |_=> .error 22
def stmt (gl:Gl)(s:PS)(l:List B):Ans:=
 match l with
 |[]=> .error 22
 |w::r=>
  if w=dO then DJ s r else if w=iE then DF s r else if w=dH then vC s r else if w=fH then IG s r
  else if w=iW then DL s r else if w=PM then Oz gl s r else if w=bP then yu gl s r else if w=bI then sN s r
  else if w=gW then CS gl s r else if w=dV then wG s r else if w=gy then zn s r else if w=iH then DX s r
  else if w=kC then CZ gl s r else if w=dB then uQ s r else if w=bn then xM gl s r else if w=dY then sD s r
  else .error 22
def stmts (gl:Gl):PS->List (Int×List B)->Except (Int×Int) PS
 |s,[]=> .ok s
 |s,(n,l)::r=>match stmt gl s l with| .error e=> .error (n,e)| .ok s'=>stmts gl s' r
end
section
open Go.RowKit Go.Shelf
attribute [local go_sem] Oper.semAt_some
theorem Eo (w:World)(s:B)(h:∀c∈s,c≠10):Calls Tryd.prog 87 #[.string ⟨s.toArray⟩,.string ⟨#[10]⟩] w fun e w'=>e= .returned (.int .i64 (-1))/\w=w':=by
 refine(wM w s).mono ?_;rintro e w' ⟨rfl,rfl⟩;refine⟨?_,rfl⟩;have:Lib.indexByte s 10= -1:=by
  by_cases h1:Lib.indexByte s 10= -1
  ·exact h1
  have hge:=Lib.indexByte_ge s 10;obtain⟨h2,-⟩:=Lib.indexByte_some (l:=s) (c:=10) (o:=(Lib.indexByte s 10).toNat) (by omega);exact absurd rfl (h 10 (aa8 h2))
 rw[this]
theorem EI (w:World)(s:B)(o:Nat)(h:s[o]? =some 10)(hn:∀c∈s.take o,c≠10):Calls Tryd.prog 87 #[.string ⟨s.toArray⟩,.string ⟨#[10]⟩] w fun e w'=>e= .returned (.int .i64 o)/\w=w':=by
 refine(wM w s).mono ?_;rintro e w' ⟨rfl,rfl⟩;refine⟨?_,rfl⟩;have:Lib.indexByte s 10=o:=by
  by_cases h1:Lib.indexByte s 10= -1
  ·exact absurd h (Lib.indexByte_none h1 o)
  have hge:=Lib.indexByte_ge s 10;obtain⟨h2,h3⟩:=Lib.indexByte_some (l:=s) (c:=10) (o:=(Lib.indexByte s 10).toNat) (by omega);have a1:¬(Lib.indexByte s 10).toNat<o:=fun hlt=>hn 10 (by
   rw[abk];exact⟨_,by rw[abu,if_pos hlt];exact h2⟩) rfl
  have a2:¬o<(Lib.indexByte s 10).toNat:=fun hlt=>h3 o hlt h
  omega
 rw[this]
theorem KD (s:B):(∀c∈s,c≠10)\/∃o,s[o]? =some 10/\∀c∈s.take o,c≠10:=by
 induction s with
 |nil=>left;simp
 |cons c r ih=>
  by_cases hc:c=10
  ·right;exact⟨0,by simp[hc],by simp⟩
  rcases ih with h|⟨o,h1,h2⟩
  ·left;intro d hd;rcases abd.1 hd with rfl|hd
   ·exact hc
   exact h d hd
  right;refine⟨o+1,by simpa using h1,fun d hd=> ?_⟩;rw[List.take_succ_cons] at hd;rcases abd.1 hd with rfl|hd
  ·exact hc
  exact h2 d hd
theorem MK (s:B)(o:Nat)(h:s[o]? =some 10)(hn:∀c∈s.take o,c≠10):gz s=s.take o::gz (s.drop (o+1)):=by have:=LJ s 0 o h (by omega) (by simpa using hn);simpa using this
theorem uf (s:B):(gz s).length<=s.length+1:=by
 induction s with
 |nil=>simp[gz]
 |cons c r ih=>
  rw[gz];split
  ·simp;omega
  split<;>rename_i h<;>rw[h] at ih<;>simp at ih ⊢;omega
theorem RoundIn.deep {P:Program}{l m k:Nat}{f:FuncId}{tmps:Array Value}{assign body:Code}{w:World}{R:Ending->World->Prop}(h:RoundIn Fence.wide m P l f tmps assign body w R):RoundIn Fence.wide k P l f tmps assign body w R:=⟨h.1,fun c cs _=>h.2 c cs (fun _ hd=>by cases hd)⟩
def strLen (W:World)(b:Nat):Nat:=match W.cell? ⟨b,0,none⟩ with|some (.string s)=>s.size|_=>0
theorem wQ {W:World}{b:Nat}{s:B}(h:Bk W b 9 #[.string ⟨s.toArray⟩]):strLen W b=s.length:=by have:W.cell? ⟨b,0,none⟩=some (.string ⟨s.toArray⟩):=h.cell 0;simp[strLen,this];rfl
abbrev Ln:= {x:B // x.length<=800000000}
def xR (x:Ln):Array Value:= #[.string ⟨x.1.toArray⟩]
def DY (h:Nat)(b:Nat):Prop:=b=h\/b=h+1\/b=h+1+1
theorem sJ {T:Nat->Prop}{W W':World}(h:ZV T W W'){b:Nat}(hb:T b){t:TypeId}{cs:Array Value}(hk:Bk W b t cs):Bk W' b t cs:=h b hb _ hk rfl
theorem Gp (w:World)(h:Nat)(s:B)(hs:s.length<=800000000)(h1:Bk w h 9 #[.string ⟨s.toArray⟩])(h2:Bk w (h+1) 9 #[.string ⟨#[10]⟩])(h3:Bk w (h+1+1) 3 #[.int .i64 0]):
  Et Tryd.prog h 85 #[.pointer (some ⟨h+1,0,none⟩),.pointer (some ⟨h,0,none⟩),.pointer (some ⟨h+1+1,0,none⟩)] xR (ZV (DY h)) (fun xs _=>xs.map (·.1)=gz s) (fun xs=>xs.map (·.1)<+:gz s) (s.length+1) w:=by
 intro l n J Bx W hn hl hW hJ hJc hY h0;have b1:Bk W h 9 _:=(hW.block _ h1.lt).trans h1;have b2:Bk W (h+1) 9 _:=(hW.block _ h2.lt).trans h2;have b3:Bk W (h+1+1) 3 _:=(hW.block _ h3.lt).trans h3;have k2:W.cell? ⟨h+1,0,none⟩=some (.string ⟨#[10]⟩):=b2.cell 0;have HY:=hd0 hY;have Vt:=hd0 hJc;clear h1 h2 h3 hJ hY hJc;refine callsIn_of_wp Tryd.func85 rfl trivial ?_ rfl;simp only[Tryd.ntmps85,List.size_toArray,lc,ln,Nat.reduceAdd,Nat.reduceSub,Array.replicate_succ,Array.replicate_zero,List.push_toArray,List.append_toArray,abC,abh]
 gi_wp2
 gi_loopw [7] (fun _ wr=>∃(rest:B) (pre:List Ln),J pre wr/\Bk wr h 9 #[.string ⟨rest.toArray⟩]/\Bk wr (h+1) 9 #[.string ⟨#[10]⟩]/\Bk wr (h+1+1) 3 #[.int .i64 0]/\Hid (pre.map (·.1)++gz rest=gz s)/\rest.length<=s.length) (fun _ wr=>strLen wr h)
 case atStart=>exact⟨s,[],h0,b1,b2,b3,rfl,ag _⟩
 case round=>
  obtain⟨rest,pre,hJs,b1,b2,b3,hpre,hrl⟩:=hrel;have k1:wr.cell? ⟨h,0,none⟩=some (.string ⟨rest.toArray⟩):=b1.cell 0;have k2:wr.cell? ⟨h+1,0,none⟩=some (.string ⟨#[10]⟩):=b2.cell 0;have k3:wr.cell? ⟨h+1+1,0,none⟩=some (.int .i64 0):=b3.cell 0;rcases KD rest with hno|⟨o,ho,hno⟩
  ·have hlast:Hid ((pre++[(⟨rest,by omega⟩:Ln)]).map (·.1)=gz s):=by
    have:=hpre.out;rw[G6 rest hno] at this;show _=_;simpa using this
   have hidx:=hd0 (Eo wr rest hno);have hlenp:pre.length<s.length+1:=by have h1:=congrArg List.length hlast.out;have h2:=uf s;simp at h1;omega
   obtain⟨fn,tmps,assign,body,hy,hR⟩:=HY.out pre ⟨rest,by omega⟩ wr hJs hlenp;simp only[xR] at hy;clear hno hJs
   gi_wp2_with fail
   refine⟨trivial,fun _=>by omega,?_⟩;refine(callsIn_wide.2 hidx.out).mono ?_;rintro e w' ⟨rfl,rfl⟩
   gi_wp2_with fail
   refine⟨fun h=>(by cases h),?_⟩;refine(RoundIn.deep hR).mono ?_;rintro e W3 (⟨rfl,hJ3,iy,hK3⟩|⟨rfl,hB3,hs3,hK3⟩)
   ·clear hK3
    gi_wp2_with fail
    go_end0
    exact⟨⟨_,rfl⟩,.inl ⟨_,hlast.out,hJ3⟩⟩
   clear hK3
   gi_wp2_with fail
   go_end0
   exact⟨⟨_,rfl⟩,.inr ⟨_,⟨[],by rw[abw];exact hlast.out⟩,hB3⟩⟩
  have hnext:Hid ((pre++[(⟨rest.take o,by simp;omega⟩:Ln)]).map (·.1)++gz (rest.drop (o+1))=gz s):=by have:=hpre.out;rw[MK rest o ho hno] at this;show _=_;simpa using this
  have hlt:o<rest.length:=(aa2.1 ho).1;have hidx:=hd0 (EI wr rest o ho hno);have hlenp:pre.length<s.length+1:=by have h1:=congrArg List.length hnext.out;have h2:=uf s;simp at h1;omega
  obtain⟨fn,tmps,assign,body,hy,hR⟩:=HY.out pre ⟨rest.take o,by simp;omega⟩ wr hJs hlenp;simp only[xR] at hy;have Yv:(ByteArray.mk rest.toArray).extract 0 o=⟨(rest.take o).toArray⟩:=by rw[lM,List.drop_zero]
  have X6:(ByteArray.mk rest.toArray).extract (o+1) rest.length=⟨(rest.drop (o+1)).toArray⟩:=by rw[lM,aa6]
  have hz:decide ((o:Int)<0)=false:=by simp
  clear ho hno hJs
  gi_wp2_with fail
  refine⟨trivial,fun _=>by omega,?_⟩;refine(callsIn_wide.2 hidx.out).mono ?_;rintro e w' ⟨rfl,rfl⟩
  gi_wp2_with fail
  refine⟨fun h=>(by cases h),?_⟩;refine(RoundIn.deep hR).mono ?_;rintro e W3 (⟨rfl,hJ3,iy,hK3⟩|⟨rfl,hB3,hs3,hK3⟩)
  ·have c1:=sJ iy (.inl rfl) b1;have c2:=sJ iy (.inr (.inl rfl)) b2;have c3:=sJ iy (.inr (.inr rfl)) b3;have q1:W3.cell? ⟨h,0,none⟩=some (.string ⟨rest.toArray⟩):=c1.cell 0;have q2:W3.cell? ⟨h+1,0,none⟩=some (.string ⟨#[10]⟩):=c2.cell 0;have q3:W3.frozen? ⟨h,0,none⟩=false:=c1.frozen 0;have hm:Hid (strLen wr h=rest.length):=wQ b1;have hd:Bk (W3.setCell ⟨h,0,none⟩ (.string ⟨(rest.drop (o+1)).toArray⟩)) h 9 #[.string ⟨(rest.drop (o+1)).toArray⟩]:=c1.set 0 _;clear hK3
   gi_wp2_with fail
   go_roundw
   case rel=>exact⟨rest.drop (o+1),_,Vt.out _ _ _ hJ3,hd,c2.far (by simp) _,c3.far (by simp;omega) _,hnext,by simp;omega⟩
   case measure=>rw[wQ hd,hm.out,abG];omega
  clear hK3
  gi_wp2_with fail
  refine bodyPost_ret (results_none rfl _ _ _) rfl ?_;exact⟨⟨_,rfl⟩,.inr ⟨_,⟨_,hnext.out⟩,hB3⟩⟩
end
section
open Go.RowKit
attribute [-go_sem] Builtin.append_
theorem LX:(Tryd.prog.info? 63).map (fun i=>(i.zero,i.size,i.bytes))=some (some (.agg #[.int .i64 0,.int .i64 0,.string ⟨#[]⟩]),3,32):=by kernel_rfl
def aam (h:Nat)(s:B)(n:Nat)(f:Int)(ws:List P3)(W:World):Prop:=
 Bk W h 9 #[.string ⟨s.toArray⟩]/\Bk W (h+1) 3 #[.int .i64 n]/\Bk W (h+1+1+1) 3 #[.int .i64 f]/\
  ∃A c,Bk W (h+1+1) 61 #[.slice A ws.length c]/\W.ownsRow (h+1+1+1+1) 63 3 (.slice A ws.length c) ws.length (jQ ws)
def nI (h:Nat)(s:B)(n:Nat)(ws:List P3)(W:World)(e:Ending)(W':World):Prop:=e= .returned (.tuple #[])/\aam h s n (-1) ws W'/\Below h W W'/\KeepsOthers W W'
theorem La (W:World)(h:Nat)(s:B)(n t:Nat)(ws:List P3)(hb:aam h s n (-1) ws W):
  Calls Tryd.prog 61 #[.int .i64 t,.pointer (some ⟨h+1+1+1,0,none⟩),.pointer (some ⟨h+1+1,0,none⟩),.pointer (some ⟨h+1,0,none⟩),.pointer (some ⟨h,0,none⟩)] W (nI h s n ws W):=by
 obtain⟨h1,h2,h3,A,c,h4,h5⟩:=hb;have c3:W.cell? ⟨h+1+1+1,0,none⟩=some (.int .i64 (-1)):=h3.cell 0;have f3:=h3.frozen 0;have Hp:Hid (nI h s n ws W (.returned (.tuple #[])) (W.setCell ⟨h+1+1+1,0,none⟩ (.int .i64 (-1)))):=by refine⟨rfl,⟨h1.far (by simp;omega) _,h2.far (by simp) _,h3.set 0 _,A,c,h4.far (by simp) _,?_⟩,(aa0 _ _).setCell (by simp;omega) _,KeepsOthers.setCell _ _ _⟩;exact ownsRow_setCell_below h5 (by simp) _
 clear h1 h2 h4 h5;go_enter Tryd.func61,Tryd.ntmps61
 go_wp2
 go_end0
 exact Hp.out
theorem Ie (W:World)(h:Nat)(s:B)(n f t:Nat)(ws:List P3)(hb:aam h s n f ws W)(hft:f<=t)(hts:t<=s.length)(hs:s.length<=800000000)(hw:ws.length<=800000000):
  Calls Tryd.prog 61 #[.int .i64 t,.pointer (some ⟨h+1+1+1,0,none⟩),.pointer (some ⟨h+1+1,0,none⟩),.pointer (some ⟨h+1,0,none⟩),.pointer (some ⟨h,0,none⟩)] W (nI h s n (ws++[((n:Int),(f:Int),(s.take t).drop f)]) W):=by
 obtain⟨i0,hi0,hz0,hz1,hz2⟩:=info_parts LX;obtain⟨h1,h2,h3,A,c,h4,h5⟩:=hb;have k1:W.cell? ⟨h,0,none⟩=some (.string ⟨s.toArray⟩):=h1.cell 0;have k2:W.cell? ⟨h+1,0,none⟩=some (.int .i64 n):=h2.cell 0;have k3:W.cell? ⟨h+1+1+1,0,none⟩=some (.int .i64 f):=h3.cell 0;have k4:W.cell? ⟨h+1+1,0,none⟩=some (.slice A ws.length c):=h4.cell 0;have f3:=h3.frozen 0;have f4:=h4.frozen 0;have zl:=h3.lt;have hex:(ByteArray.mk s.toArray).extract f t=⟨((s.take t).drop f).toArray⟩:=lM s f t;obtain⟨T,hT⟩:∃T,(s.take t).drop f=T:=⟨_,rfl⟩
 rw[hT] at hex ⊢;clear hT;have hlow:Hid (∀k,k<h+1+1+1+1->some k≠(Value.slice A ws.length c).ownBlock):=fun k hk e=>by have:=(h5.lt k e.symm).1;omega
 have Hp:Hid (∀(v1:Value) (w1:World),w1.ownsRow (h+1+1+1+1) 63 3 v1 (ws.length+1) (jQ ws++[.int .i64 n,.int .i64 f,.string ⟨T.toArray⟩])->(W.alloc (.cells #[.int .i64 n,.int .i64 f,.string ⟨T.toArray⟩] 63)).drew.grownBy w1 (Value.slice A ws.length c).ownBlock->
   nI h s n (ws++[((n:Int),(f:Int),T)]) W (.returned (.tuple #[])) ((w1.setCell ⟨h+1+1,0,none⟩ v1).setCell ⟨h+1+1+1,0,none⟩ (.int .i64 (-1)))):=by
  intro v1 w1 hown hg;obtain⟨A1,c1,rfl,-⟩:=Rd.ZX hown;have nT:∀k,k<h+1+1+1+1->w1.heap[k]? =W.heap[k]? :=fun k hk=>(hg.block k (by simp;omega) (hlow.out k hk)).trans (Below.heap_alloc _ _ _ (by omega))
  have b1:Bk w1 h 9 _:=(nT _ (by omega)).trans h1;have b2:Bk w1 (h+1) 3 _:=(nT _ (by omega)).trans h2;have b3:Bk w1 (h+1+1+1) 3 _:=(nT _ (by omega)).trans h3;have b4:Bk w1 (h+1+1) 61 _:=(nT _ (by omega)).trans h4;refine⟨rfl,⟨(b1.far (by simp;omega) _).far (by simp;omega) _,(b2.far (by simp) _).far (by simp) _,(b3.far (by simp) _).set 0 _,A1,c1,?_,?_⟩,?_,?_⟩
  ·have:=(b4.set 0 (.slice A1 (ws.length+1) c1)).far (p:=⟨h+1+1+1,0,none⟩) (by simp) (.int .i64 (-1));simpa using this
  ·have:=ownsRow_setCell_below (ownsRow_setCell_below hown (a:=⟨h+1+1,0,none⟩) (by simp) (.slice A1 (ws.length+1) c1)) (a:=⟨h+1+1+1,0,none⟩) (by simp) (.int .i64 (-1));rw[Ci];simpa [jQ,c3] using this
  ·exact((((aa0 h W).alloc (by omega) _).drew.grown hg (by simp;omega) (fun g hg'=>by have:=(h5.lt g hg').1;omega)).setCell (by simp;omega) _).setCell (by simp;omega) _
  have ka:KeepsOthers W (W.alloc (.cells #[.int .i64 n,.int .i64 f,.string ⟨T.toArray⟩] 63)).drew:=⟨(KeepsOthers.alloc W _).size,(KeepsOthers.alloc W _).same⟩
  refine KeepsOthers.trans (KeepsOthers.trans (KeepsOthers.trans ka (KeepsOthers.of_grownBy hg (fun j o hj ho=> ?_))) (KeepsOthers.setCell _ _ _)) (KeepsOthers.setCell _ _ _);obtain⟨cur,hk⟩:=dh (h5.alloc (.cells #[.int .i64 n,.int .i64 f,.string ⟨T.toArray⟩] 63)) j hj;have hk2:(W.alloc (.cells #[.int .i64 n,.int .i64 f,.string ⟨T.toArray⟩] 63)).drew.heap[j]? =_:=hk;rw[hk2] at ho;cases ho;rfl
 obtain⟨v1,w1,hrun,hown1,hg1,-⟩:=iF (P:=Tryd.prog) ((W.alloc (.cells #[.int .i64 n,.int .i64 f,.string ⟨T.toArray⟩] 63)).drew) (h+1+1+1+1) 61 61 63 i0 _ 3 32 Tryd.underlying61 hi0 hz0 hz1 hz2 rfl (by decide) (.slice A ws.length c) ws.length (jQ ws) (h5.alloc _).drew (W.heap.size+1) (some ⟨W.heap.size,0,none⟩) 1 1 [.int .i64 n,.int .i64 f,.string ⟨T.toArray⟩] (Rd.drew (Rd.newAt _ _ (by simp) #[.int .i64 n,.int .i64 f,.string ⟨T.toArray⟩] 63 1 3 rfl)) (by simp[Value.oneCell']) (by simp only[maxLen];omega) (by omega) (by simp;omega);obtain⟨A1,c1,rfl,-⟩:=Rd.ZX hown1;have Xt:=hd0 (Hp.out _ _ hown1 hg1);have b4:Bk w1 (h+1+1) 61 #[.slice A ws.length c]:=(hg1.block (h+1+1) (by simp;omega) (hlow.out _ (by omega))).trans (h4.alloc _);have x4:w1.cell? ⟨h+1+1,0,none⟩=some (.slice A ws.length c):=b4.cell 0;have y4:w1.frozen? ⟨h+1+1,0,none⟩=false:=b4.frozen 0;have b3:Bk w1 (h+1+1+1) 3 #[.int .i64 f]:=(hg1.block (h+1+1+1) (by simp;omega) (hlow.out _ (by omega))).trans (h3.alloc _);have x3:w1.cell? ⟨h+1+1+1,0,none⟩=some (.int .i64 f):=b3.cell 0;have y3:w1.frozen? ⟨h+1+1+1,0,none⟩=false:=b3.frozen 0;have q4:(W.alloc (.cells #[.int .i64 n,.int .i64 f,.string ⟨T.toArray⟩] 63)).cell? ⟨h+1+1,0,none⟩=some (.slice A ws.length c):=(h4.alloc _).cell 0;clear hown1 hg1 b3 b4 h1 h2 h3 h4 h5 hlow Hp hi0 hz0 hz1 hz2;go_enter Tryd.func61,Tryd.ntmps61
 go_wp2_with fail
 go_region
 all_goals
  go_wp2
  go_end0
  exact Xt.out
end
section
open Go.RowKit
def strs (ws:List B):List Value:=ws.map fun s=> .string ⟨s.toArray⟩
theorem nN (a b:List B):strs (a++b)=strs a++strs b:=by simp[strs]
theorem yB (a:List B):(strs a).length=a.length:=by simp[strs]
theorem rC (ws:List B):∀u∈strs ws,u.oneCell'=true:=by intro u hu;simp only[strs,abv] at hu;obtain⟨p,_,rfl⟩:=hu;rfl
theorem Bq (w:World)(S:Bs)(ws:List B):Fl aaw 1 w S (strs ws) ws:=
 ⟨by simp[strs],fun k x hx=>⟨[.string ⟨x.toArray⟩],rfl,rfl,fun j u hu=>by
  cases j with
  |zero=>simp at hu;subst hu;simp[strs,hx]
  |succ j=>simp at hu⟩⟩
def aar (w:World)(g:Nat)(cs:List Value):Prop:=∃t fz,w.heap[g]? =some (.cells cs.toArray t fz)
theorem aar.cell {w:World}{g:Nat}{cs:List Value}(h:aar w g cs)(i:Nat):w.cell? ⟨g,i,none⟩=cs[i]? :=by obtain⟨t,fz,h⟩:=h;simp[World.cell?,h]
theorem aar.lt {w:World}{g:Nat}{cs:List Value}(h:aar w g cs):g<w.heap.size:=by obtain⟨t,fz,h⟩:=h;exact(aa4.1 h).1
theorem aar.below {w w':World}{g Bd:Nat}{cs:List Value}(h:aar w g cs)(hb:Below Bd w w')(hg:g<Bd):aar w' g cs:=by obtain⟨t,fz,h⟩:=h;exact⟨t,fz,(hb.block g hg).trans h⟩
theorem strs_get {l:List B}{i:Nat}{s:B}(h:l[i]? =some s):(strs l)[i]? =some (.string ⟨s.toArray⟩):=by simp[strs,h]
def notP:Obj->Prop
 | .cells _ t _=>t≠5/\t≠96
 |_=>True
structure KP (w w':World):Prop where
 same:∀(b:Nat) (o:Obj),w.heap[b]? =some o->notP o->w'.heap[b]? =some o
 size:w.heap.size<=w'.heap.size
theorem KP.refl (w:World):KP w w:=⟨fun _ _ h _=>h,ag _⟩
theorem KP.trans {a b c:World}(h:KP a b)(k:KP b c):KP a c:=⟨fun x o hx ho=>k.same x o (h.same x o hx ho) ho,nt h.size k.size⟩
theorem KP.below {w w':World}(h:Below w.heap.size w w'):KP w w':=⟨fun b o hb _=>(h.block b (aa4.1 hb).1).trans hb,h.size⟩
theorem KP.alloc (w:World)(o:Obj):KP w (w.alloc o):=KP.below ((aa0 _ _).alloc (ag _) _)
theorem KP.drewN (w:World)(n:Nat):KP w (w.drewN n):=⟨fun _ _ h _=>h,ag _⟩
theorem KP.bk {w w':World}(h:KP w w'){g:Nat}{t:TypeId}{cs:Array Value}(hb:Bk w g t cs)(h1:t≠5)(h2:t≠96):Bk w' g t cs:=h.same g _ hb ⟨h1,h2⟩
def FT (w:World):Bs:=fun b=>∃o,w.heap[b]? =some o/\notP o
theorem KP.ft {w w':World}(h:KP w w'):Same (FT w) w w':=fun b ⟨o,h1,h2⟩=>(h.same b o h1 h2).trans h1.symm
theorem KP.sub {w w':World}(h:KP w w'):∀b,FT w b->FT w' b:=fun b ⟨o,h1,h2⟩=>⟨o,h.same b o h1 h2,h2⟩
theorem KP.sl {α:Type}{R:ZL α}(ok:R.Ok){size:Nat}{w w':World}{A:Option Addr}{xs:List α}(h:KP w w')(k:Sl R size w (FT w) A xs):Sl R size w' (FT w') A xs:=(k.keep ok h.ft).mono ok h.sub
theorem KP.rel {α:Type}{R:ZL α}(ok:R.Ok){w w':World}{cs:List Value}{x:α}(h:KP w w')(k:R w (FT w) cs x):R w' (FT w') cs x:=ok.mono (ok.keep k h.ft) h.sub
theorem tN {w:World}{b:Nat}{t:TypeId}{cs:Array Value}(h:Bk w b t cs)(h1:t≠5)(h2:t≠96):FT w b:=⟨_,h,h1,h2⟩
structure RV where
 v:Value
 n:Nat
 xs:List Value
def RV.nil:RV:=⟨.slice none 0 0,0,[]⟩
def kT:Nat->TypeId
 |0=>57
 |1=>74
 |2=>60
 |3=>82
 |4=>84
 |5=>89
 |6=>55
 |7=>3
 |8=>146
 |9=>3
 |10=>66
 |11=>68
 |12=>70
 |13=>72
 |_=>78
def kS:Nat->Nat
 |0=>9
 |1=>2
 |2=>3
 |3=>2
 |4=>4
 |5=>1
 |6=>1
 |7=>1
 |8=>3
 |9=>1
 |10=>3
 |11=>4
 |12=>4
 |13=>2
 |_=>6
def uA (t:TypeId):Bool:=[57,74,60,82,84,89,55,3,146,66,68,70,72,78,86,80,22].contains t
theorem KO (j:Nat):uA (kT j)=true:=by unfold kT;split<;>decide
abbrev Rows:=Nat->RV
def upd (rv:Rows)(i:Nat)(r:RV):Rows:=fun j=>if j=i then r else rv j
theorem upd_same (rv:Rows)(i:Nat)(r:RV):upd rv i r i=r:=by simp[upd]
theorem fA (rv:Rows){i j:Nat}(r:RV)(h:j≠i):upd rv i r j=rv j:=by simp[upd,h]
structure Live (w:World)(Bd:Nat)(rv:Rows):Prop where
 own:∀j,j<15->w.ownsRow Bd (kT j) (kS j) (rv j).v (rv j).n (rv j).xs
 apart:∀i j,i<15->j<15->i≠j->∀g,(rv i).v.ownBlock=some g->(rv j).v.ownBlock≠some g
def Fz (w:World)(rv:Rows):Bs:=fun b=>∃cs t,Bk w b t cs/\uA t=true/\∀j,j<15->(rv j).v.ownBlock≠some b
structure Tr (w:World)(rv:Rows)(w':World)(rv':Rows):Prop where
 same:Same (Fz w rv) w w'
 sub:∀b,Fz w rv b->Fz w' rv' b
theorem Tr.refl (w:World)(rv:Rows):Tr w rv w rv:=⟨Same.refl _ _,fun _ h=>h⟩
theorem Tr.trans {a b c:World}{x y z:Rows}(h:Tr a x b y)(k:Tr b y c z):Tr a x c z:=⟨fun g hg=>(k.same g (h.sub g hg)).trans (h.same g hg),fun g hg=>k.sub g (h.sub g hg)⟩
theorem Tr.rel {α:Type}{R:ZL α}(ok:R.Ok){w w':World}{rv rv':Rows}{cs:List Value}{x:α}(h:Tr w rv w' rv')(k:R w (Fz w rv) cs x):R w' (Fz w' rv') cs x:=ok.mono (ok.keep k h.same) h.sub
theorem Tr.sl {α:Type}{R:ZL α}(ok:R.Ok){size:Nat}{w w':World}{rv rv':Rows}{A:Option Addr}{xs:List α}(h:Tr w rv w' rv')(k:Sl R size w (Fz w rv) A xs):Sl R size w' (Fz w' rv') A xs:=(k.keep ok h.same).mono ok h.sub
theorem Tr.fl {α:Type}{R:ZL α}(ok:R.Ok){size:Nat}{w w':World}{rv rv':Rows}{cs:List Value}{xs:List α}(h:Tr w rv w' rv')(k:Fl R size w (Fz w rv) cs xs):Fl R size w' (Fz w' rv') cs xs:=(k.keep ok h.same).mono ok h.sub
theorem Am {w:World}{base:Nat}{e:TypeId}{size:Nat}{v:Value}{n:Nat}{xs:List Value}(h:w.ownsRow base e size v n xs){g:Nat}(hg:v.ownBlock=some g):∃cur,Bk w g e cur:=dh h g hg
theorem iT {w:World}{g:Nat}{t t':TypeId}{cs cs':Array Value}(h:Bk w g t cs)(k:Bk w g t' cs'):t=t'/\cs=cs':=by
 unfold Bk at h k;rw[h] at k;injection k with k
 injection k with k1 k2
 exact⟨k2,k1⟩
theorem Live.keep {w w':World}{Bd:Nat}{rv:Rows}(h:Live w Bd rv)(hk:∀j,j<15->∀g,(rv j).v.ownBlock=some g->w'.heap[g]? =w.heap[g]?):Live w' Bd rv:=
 ⟨fun j hj=>by
  obtain⟨h1,h2⟩:=h.own j hj;refine⟨h1,?_⟩;rcases h2 with h2|⟨g,cap,cur,e,hb,hg,rest⟩
  ·exact .inl h2
  exact .inr ⟨g,cap,cur,e,hb,(hk j hj g (by rw[e];rfl)).trans hg,rest⟩,h.apart⟩
theorem Live.below {w w':World}{Bd:Nat}{rv:Rows}(h:Live w Bd rv)(hb:Below w.heap.size w w'):Live w' Bd rv:=h.keep fun j hj g hg=>hb.block g ((h.own j hj).lt g hg).2
theorem Tr.below {w w':World}{rv:Rows}(hb:Below w.heap.size w w'):Tr w rv w' rv:=⟨fun b ⟨cs,t,h1,_⟩=>hb.block b h1.lt,fun b ⟨cs,t,h1,h2,h3⟩=>⟨cs,t,(hb.block b h1.lt).trans h1,h2,h3⟩⟩
theorem Live.other {w w':World}{Bd:Nat}{rv:Rows}(h:Live w Bd rv){row:Option Nat}(hg:w.grownBy w' row)(hr:∀g,row=some g->∀t cs,Bk w g t cs->uA t=false):Live w' Bd rv:=
 h.keep fun j hj g hgj=>hg.block g ((h.own j hj).lt g hgj).2 (fun e=>by
  obtain⟨cur,hb⟩:=Am (h.own j hj) hgj;have:=hr g e.symm _ _ hb;rw[KO] at this;cases this)
theorem Tr.other {w w':World}{rv:Rows}{row:Option Nat}(hg:w.grownBy w' row)(hr:∀g,row=some g->∀t cs,Bk w g t cs->uA t=false):Tr w rv w' rv:=by
 have key:∀b,Fz w rv b->w'.heap[b]? =w.heap[b]? :=fun b ⟨cs,t,h1,h2,_⟩=>hg.block b h1.lt (fun e=>by
  have:=hr b e.symm _ _ h1;rw[h2] at this;cases this)
 exact⟨key,fun b hb=>by
  obtain⟨cs,t,h1,h2,h3⟩:=hb;exact⟨cs,t,(key b ⟨cs,t,h1,h2,h3⟩).trans h1,h2,h3⟩⟩
theorem Live.row {w w':World}{Bd:Nat}{rv:Rows}(h:Live w Bd rv){i:Nat}(hi:i<15){r:RV}(hg:w.grownBy w' (rv i).v.ownBlock)(ho:w'.ownsRow Bd (kT i) (kS i) r.v r.n r.xs)
  (hl:r.v.ownBlock=(rv i).v.ownBlock\/∀g,r.v.ownBlock=some g->w.heap.size<=g):Live w' Bd (upd rv i r):=by
 have hne:∀j,j<15->j≠i->(rv j).v.ownBlock=none\/(rv j).v.ownBlock≠(rv i).v.ownBlock:=fun j hj hji=>by
  cases hb:(rv j).v.ownBlock with
  |none=>exact .inl rfl
  |some g=>exact .inr (fun e=>h.apart j i hj hi hji g hb e.symm)
 have hnew:∀j,j<15->j≠i->∀g,(rv j).v.ownBlock=some g->r.v.ownBlock≠some g:=fun j hj hji g hb e=>by
  rcases hl with hl|hl
  ·rw[hl] at e;exact h.apart j i hj hi hji g hb e
  have:=hl g e;have:=((h.own j hj).lt g hb).2;omega
 refine⟨fun j hj=> ?_,fun a b ha hb hab g=> ?_⟩
 ·by_cases hji:j=i
  ·subst hji;rw[upd_same];exact ho
  rw[fA _ _ hji];exact(h.own j hj).kept hg (hne j hj hji)
 by_cases hai:a=i
 ·subst hai;rw[upd_same,fA _ _ (Ne.symm hab)];intro e1 e2;exact hnew b hb (Ne.symm hab) g e2 e1
 rw[fA _ _ hai];by_cases hbi:b=i
 ·subst hbi;rw[upd_same];exact hnew a ha hai g
 rw[fA _ _ hbi];exact h.apart a b ha hb hab g
theorem Tr.row {w w':World}{rv:Rows}{i:Nat}(hi:i<15){r:RV}(hg:w.grownBy w' (rv i).v.ownBlock)(hl:r.v.ownBlock=(rv i).v.ownBlock\/∀g,r.v.ownBlock=some g->w.heap.size<=g):Tr w rv w' (upd rv i r):=by
 have key:∀b,Fz w rv b->w'.heap[b]? =w.heap[b]? :=fun b ⟨cs,t,h1,h2,h3⟩=>hg.block b h1.lt (fun e=>h3 i hi e.symm)
 refine⟨key,fun b hb=> ?_⟩;obtain⟨cs,t,h1,h2,h3⟩:=hb;refine⟨cs,t,(key b ⟨cs,t,h1,h2,h3⟩).trans h1,h2,fun j hj=> ?_⟩;by_cases hji:j=i
 ·subst hji;rw[upd_same];rcases hl with hl|hl
  ·rw[hl];exact h3 j hi
  intro e;have:=hl b e;have:=h1.lt;omega
 rw[fA _ _ hji];exact h3 j hj
theorem Live.drop {w:World}{Bd:Nat}{rv:Rows}(h:Live w Bd rv)(i:Nat):Live w Bd (upd rv i RV.nil):=by
 refine⟨fun j hj=> ?_,fun a b ha hb hab g=> ?_⟩
 ·by_cases hji:j=i
  ·subst hji;rw[upd_same];exact World.ownsRow_nil w Bd _ _
  rw[fA _ _ hji];exact h.own j hj
 by_cases hai:a=i
 ·subst hai;rw[upd_same];intro e;cases e
 rw[fA _ _ hai];by_cases hbi:b=i
 ·subst hbi;rw[upd_same];intro _ e;cases e
 rw[fA _ _ hbi];exact h.apart a b ha hb hab g
theorem Tr.drop (w:World)(rv:Rows)(i:Nat):Tr w rv w (upd rv i RV.nil):=
 ⟨Same.refl _ _,fun b ⟨cs,t,h1,h2,h3⟩=>⟨cs,t,h1,h2,fun j hj=>by
  by_cases hji:j=i
  ·subst hji;rw[upd_same];intro e;cases e
  rw[fA _ _ hji];exact h3 j hj⟩⟩
theorem Sl.aaF {α:Type}{R:ZL α}{size:Nat}{w:World}{S:Bs}{cells:List Value}{xs:List α}{A:Option Addr}{base n c:Nat}{e:TypeId}(h:w.ownsRow base e size (.slice A n c) n cells)(hf:Fl R size w S cells xs)(hS:∀g,(Value.slice A n c).ownBlock=some g->S g)(hsz:0<size):Sl R size w S A xs:=by
 refine⟨cells,hf,fun h0=> ?_⟩;rcases h.2 with⟨h1,h2⟩|⟨g,cap,cur,h1,hb,hh,hn,-⟩
 ·have h3:=h.1;have h4:=hf.1;subst h2;simp only[Nat.zero_mul,List.length_eq_zero_iff] at h3;subst h3;have:=Nat.mul_pos h0 hsz;rw[<-h4] at this;simp at this
 simp only[abQ,true_and] at h1;obtain⟨rfl,rfl⟩:=h1;refine⟨g,0,rfl,hS g rfl,fun j u hu=> ?_⟩;have:=h.cells (g:=g) rfl j u hu
 rwa [addr_add] at this
theorem Gm {w:World}{base:Nat}{e:TypeId}{size:Nat}{v:Value}{n:Nat}{xs:List Value}(h:w.ownsRow base e size v n xs):∃A c,v= .slice A n c:=by
 rcases h.2 with⟨rfl,rfl⟩|⟨g,cap,cur,rfl,_⟩
 ·exact⟨none,0,rfl⟩
 exact⟨_,_,rfl⟩
end
end Go.Proofs.YtkijckccfookeaaDoor
