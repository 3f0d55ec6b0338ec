/- Lemmas. -/
import Derived.Test.YtkijckccfookeaaDoorW05
set_option linter.unusedVariables false
set_option linter.unusedSimpArgs false
set_option maxRecDepth 100000
set_option maxHeartbeats 32000000
namespace Go.Proofs.YtkijckccfookeaaDoor
section
open Go.RowKit
structure Z7 (gl:Gl)(gs:List Zy):Prop where
 at':∀(i:Nat) (g:Zy),gs[i]? =some g->gl.lookup g.name=some i
 names:∀g∈gs,nameB g.name=true
theorem nM {gl:Gl}{gs:List Zy}(h:Z7 gl gs){n:Int}(hn:In gs.length n):gl.lookup (aT gs n)=some n.toNat/\nameB (aT gs n)=true:=by
 obtain⟨h1,h2⟩:=hn;have hlt:n.toNat<gs.length:=by omega
 have e:gs[n.toNat]? =some gs[n.toNat]:=aa3 hlt;have e2:aT gs n=gs[n.toNat].name:=by unfold aT;rw[if_neg (by omega),e]
 rw[e2];exact⟨h.at' _ _ e,h.names _ (List.getElem_mem hlt)⟩
theorem pF {gl:Gl}{gs:List Zy}(h:Z7 gl gs){n:Int}(hn:In gs.length n)(e:Int):AU gl e (aT gs n)=e/\tC gl (aT gs n)=n:=by obtain⟨h1,-⟩:=nM h hn;obtain⟨h3,h4⟩:=hn;rw[AU,tC,h1];refine⟨by simp,?_⟩;simp;omega
theorem Lt {gl:Gl}{gs:List Zy}(h:Z7 gl gs)(l:List Int)(hl:∀n∈l,In gs.length n)(e:Int):Di gl e (l.map (aT gs))=e/\(l.map (aT gs)).map (tC gl)=l:=by
 induction l generalizing e with
 |nil=>exact⟨rfl,rfl⟩
 |cons n r ih=>
  obtain⟨a1,a2⟩:=pF h (hl n (by simp)) e;obtain⟨b1,b2⟩:=ih (fun m hm=>hl m (by simp[hm])) e;refine⟨?_,?_⟩
  ·have:Di gl e ((n::r).map (aT gs))=Di gl (AU gl e (aT gs n)) (r.map (aT gs)):=rfl;rw[this,a1,b1]
  rw[aba,aba,a2,b2]
theorem Aj {gl:Gl}{ZO:List (B×List Int)}{s:B}{n:Nat}(hs:nameB s=true)(hl:gl.lookup s=some n):yG gl ZO s= .ok [(n:Int)]:=by
 unfold yG;split
 ·exact absurd rfl ((FC hs 64 (by simp)).2.2.2.2.1)
 rw[hl]
theorem zX {gl:Gl}{gs:List Zy}(h:Z7 gl gs)(ZO:List (B×List Int))(s:List Int)(hs:∀n∈s,In gs.length n)(acc:List Int)(hl:acc.length+s.length<=1000):qH gl ZO acc (s.map (aT gs))= .ok (acc++s):=by
 induction s generalizing acc with
 |nil=>simp[qH]
 |cons n r ih=>
  obtain⟨h1,h2⟩:=nM h (hs n (by simp));have h3:=(hs n (by simp)).1;rw[aba,qH,Aj h2 h1];have e:((n.toNat:Nat):Int)=n:=by omega
  simp only[e];rw[if_neg (by simp only[la,lc,ln] at hl ⊢;omega),ih (fun m hm=>hs m (by simp[hm])) _ (by simp only[la,lc,ln] at hl ⊢;omega)];simp
theorem lH {gl:Gl}{gs:List Zy}(h:Z7 gl gs)(ZO:List (B×List Int))(l:List (List Int))(hl:∀s∈l,(∀n∈s,In gs.length n)/\s.length<=1000):mW gl ZO (l.map (fun s=>s.map (aT gs)))= .ok l:=by
 induction l with
 |nil=>rfl
 |cons s r ih=>obtain⟨h1,h2⟩:=hl s (by simp);rw[aba,mW,zX h ZO s h1 [] (by simpa using h2),ih (fun x hx=>hl x (by simp[hx]))];simp
theorem Ia (names:List B)(hn:∀w∈names,w≠[91]/\w≠[93])(row:List B)(told:List (List B))(rest:List B):dC true row told (names++[93]::rest)=dC false [] (told++[row++names]) rest:=by
 induction names generalizing row with
 |nil=>simp[dC]
 |cons w r ih=>obtain⟨h1,h2⟩:=hn w (by simp);rw[abh,dC,if_neg h1,if_neg h2,if_pos rfl,ih (fun x hx=>hn x (by simp[hx]))];simp
theorem vO {s:B}(h:nameB s=true):s≠[91]/\s≠[93]/\s≠[47]/\s≠[62]:=by refine⟨?_,?_,?_,?_⟩<;>(rintro rfl;revert h;decide)
theorem EF {gl:Gl}{gs:List Zy}(h:Z7 gl gs)(s:List Int)(hs:∀n∈s,In gs.length n)(told:List (List B))(rest:List B):dC false [] told (setW gs s++rest)=dC false [] (told++[s.map (aT gs)]) rest:=by
 have hb:∀n∈s,aT gs n≠[91]/\aT gs n≠[93]:=fun n hn=>by
  have:=vO (nM h (hs n hn)).2;exact⟨this.1,this.2.1⟩
 by_cases h1:s.length=1
 ·match s,h1 with
  |[n],_=>obtain⟨b1,b2⟩:=hb n (by simp);show dC false [] told (aT gs n::rest)=_;rw[dC,if_neg b1,if_neg b2];simp
 have e:setW gs s=[91]::s.map (aT gs)++[[93]]:=by
  unfold setW;split
  ·simp at h1
  rfl
 rw[e];simp only[abh,abe,abC];rw[dC,if_pos rfl];simp only[Bool.false_eq_true,if_false];rw[Ia _ (fun w hw=>by
  rw[abv] at hw;obtain⟨n,hn,rfl⟩:=hw;exact hb n hn)]
 simp
theorem Iz {gl:Gl}{gs:List Zy}(h:Z7 gl gs)(l:List (List Int))(hl:∀s∈l,∀n∈s,In gs.length n):oD (aQ gs l)=some (l.map (fun s=>s.map (aT gs))):=by
 suffices key:∀told,dC false [] told (aQ gs l)=some (told++l.map (fun s=>s.map (aT gs))) by simpa [oD] using key []
 induction l with
 |nil=>intro told;simp[aQ,dC]
 |cons s r ih=>
  intro told;have e:aQ gs (s::r)=setW gs s++aQ gs r:=by simp[aQ]
  rw[e,EF h s (hl s (by simp)),ih (fun x hx=>hl x (by simp[hx]))];simp
theorem oh {gl:Gl}{gs:List Zy}(h:Z7 gl gs)(l:List (List Int))(hl:∀s∈l,∀n∈s,In gs.length n):∀w∈aQ gs l,w≠[47]/\w≠[62]/\aP w=true:=by
 intro w hw;simp only[aQ,abE] at hw;obtain⟨s,hs,hw⟩:=hw;have hn:∀n∈s,aT gs n≠[47]/\aT gs n≠[62]/\aP (aT gs n)=true:=fun n hn=>by
  have h1:=(nM h (hl s hs n hn)).2;have:=vO h1;exact⟨this.2.2.1,this.2.2.2,iZ h1⟩
 have key:w∈[91]::s.map (aT gs)++[[93]]\/w∈s.map (aT gs):=by
  unfold setW at hw;split at hw
  ·exact .inr (by simpa using hw)
  exact .inl hw
 have:w=[91]\/w=[93]\/∃n∈s,aT gs n=w:=by
  rcases key with hk|hk
  ·simp only[abh,abd,aa5,abv,abA,or_false] at hk;rcases hk with hk|⟨n,hn,e⟩|hk
   ·exact .inl hk
   ·exact .inr (.inr ⟨n,hn,e⟩)
   exact .inr (.inl hk)
  rw[abv] at hk;exact .inr (.inr hk)
 rcases this with rfl|rfl|⟨n,hns,rfl⟩
 ·decide
 ·decide
 exact hn n hns
theorem lZ (ws:List B)(hw:∀w∈ws,w≠[47]/\w≠[62])(n:Nat)(cur:List B)(told:List (List B))(rest:List B):gG n cur told (ws++rest)=gG n (cur++ws) told rest:=by
 induction ws generalizing cur with
 |nil=>simp
 |cons w r ih=>rw[abh,gG,if_pos (hw w (by simp)),ih (fun x hx=>hw x (by simp[hx]))];simp
theorem Hu (a b c d:List B)(ha:∀w∈a,w≠[47]/\w≠[62])(hb:∀w∈b,w≠[47]/\w≠[62])(hc:∀w∈c,w≠[47]/\w≠[62])(hd:∀w∈d,w≠[47]/\w≠[62]):
  uj (a++[47]::b++[47]::c++[62]::d)=some [a,b,c,d]:=by
 have e:a++[47]::b++[47]::c++[62]::d=a++([47]::(b++([47]::(c++([62]::(d++[])))))):=by simp
 rw[e,uj,lZ a ha,gG,if_neg (by simp),if_pos (by simp),lZ b hb,gG,if_neg (by simp),if_pos (by simp),lZ c hc,gG,if_neg (by simp),if_pos (by simp),lZ d hd,gG];simp
theorem CJ (n:Int)(s:List Int)(h:∀x∈s,n<x):yh n s=n::s:=by
 cases s with
 |nil=>rfl
 |cons x r=>rw[yh,if_pos (h x (by simp))]
theorem yx (s:List Int)(h:s.Pairwise (· < ·)):setOf s=s:=by
 induction s with
 |nil=>rfl
 |cons n r ih=>obtain⟨h1,h2⟩:=List.pairwise_cons.1 h;have e:setOf (n::r)=yh n (setOf r):=rfl;rw[e,ih h2,CJ n r h1]
theorem Lh {n:Nat}{s:List Int}(h:Bh n s):s.length<=n:=by
 obtain⟨h1,h2⟩:=h
 suffices key:∀(s:List Int) (lo:Int),s.Pairwise (· < ·)->(∀x∈s,lo<=x/\x<n)->(s.length:Int)<=max 0 (n - lo) by have:=key s 0 h1 (fun x hx=>h2 x hx);omega
 intro s;induction s with
 |nil=>intro lo _ _;simp;omega
 |cons x r ih=>intro lo hp hr;obtain⟨h3,h4⟩:=List.pairwise_cons.1 hp;have h5:=hr x (by simp);have:=ih (x+1) h4 (fun y hy=>⟨by have:=h3 y hy;omega,(hr y (by simp[hy])).2⟩);simp only[lc];omega
theorem qW {s:List Int}(h:s.Pairwise (· < ·)):s.Nodup:=h.imp (fun hab e=>by omega)
theorem Lr (s out:List Int)(hn:s.Nodup)(hl:out.length=s.length):s.map (fun g=>out.getD (s.idxOf g) 0)=out:=by
 apply List.ext_getElem (by simp[hl]);intro i h1 h2;rw[List.getElem_map];have h3:i<s.length:=by simpa using h1
 rw[List.Nodup.idxOf_getElem hn i h3];simp[List.getD,h2]
theorem qB (s out:List Int)(hs:s.Pairwise (· < ·))(hl:out.length=s.length):uU s out= .ok out:=by rw[uU,if_neg (by simpa using qW hs),if_neg (by simpa using hl),yx s hs,Lr s out (qW hs) hl]
theorem wV (c:Call)(h:N9 c.at'/\N9 c.lookup)(e:Int):xN e (af c.at'++58::af c.lookup)=e/\xW (af c.at'++58::af c.lookup)=c/\(af c.at'++58::af c.lookup).count 58=1/\aP (af c.at'++58::af c.lookup)=true:=by
 obtain⟨h1,h2⟩:=h;have n1:∀d∈af c.at',d≠58:=fun d hd=>(dF (jc _ d hd)).2.1
 have n2:∀d∈af c.lookup,d≠58:=fun d hd=>(dF (jc _ d hd)).2.1
 obtain⟨c1,c2⟩:=yX (b:=af c.lookup) n1;refine⟨?_,?_,?_,?_⟩
 ·rw[xN,c1,c2,dn _ h1,dn _ h2]
 ·rw[xW,c1,c2,(bJ _ h1).2,(bJ _ h2).2]
 ·rw[List.count_append,List.count_cons,count_none n1,count_none n2];simp
 simp only[aP,abo,Bool.not_eq_true',List.isEmpty_eq_false_iff,abB,aa5,abd];refine⟨by simp,fun d hd=> ?_⟩;rcases hd with hd|rfl|hd
 ·exact(dF (jc _ d hd)).1
 ·decide
 exact(dF (jc _ d hd)).1
theorem Ed (l:List Call)(h:∀c∈l,N9 c.at'/\N9 c.lookup)(e:Int):(l.map (fun c=>af c.at'++58::af c.lookup)).foldl xN e=e/\(l.map (fun c=>af c.at'++58::af c.lookup)).map xW=l/\
  vM (l.map (fun c=>af c.at'++58::af c.lookup))=true/\∀w∈l.map (fun c=>af c.at'++58::af c.lookup),aP w=true:=by
 induction l generalizing e with
 |nil=>exact⟨rfl,rfl,rfl,by simp⟩
 |cons c r ih=>
  obtain⟨a1,a2,a3,a4⟩:=wV c (h c (by simp)) e;obtain⟨b1,b2,b3,b4⟩:=ih (fun d hd=>h d (by simp[hd])) e;refine⟨?_,?_,?_,?_⟩
  ·rw[aba,abr,a1,b1]
  ·rw[aba,aba,a2,b2]
  ·unfold vM at b3 ⊢;rw[aba,List.all_cons,b3,a3];rfl
  intro w hw;rw[aba,abd] at hw;rcases hw with rfl|hw
  ·exact a4
  exact b4 w hw
theorem EW {w:World}{l:List (String×DataW Unit)}(h:laidMet Tryd.prog l w)
  (m1:("fleuron/unparse.opNames",Rows.laid_fleuron_unparse_opNames)∈l) (m2:("fleuron/unparse.anchorNames",Rows.laid_fleuron_unparse_anchorNames)∈l) (m3:("fleuron/unparse.lookupNames",Rows.laid_fleuron_unparse_lookupNames)∈l)
  (m4:("internal/strconv.uint64pow10",Rows.laid_internal_strconv_uint64pow10)∈l):Tabs w:=
 ⟨pO (jG h m1) (by kernel_rfl) (by kernel_rfl) Tryd.underlying109 Tryd.underlying9 (by kernel_rfl) (by kernel_rfl),
 pO (jG h m2) (by kernel_rfl) (by kernel_rfl) Tryd.underlying150 Tryd.underlying9 (by kernel_rfl) (by kernel_rfl),
 pO (jG h m3) (by kernel_rfl) (by kernel_rfl) Tryd.underlying151 Tryd.underlying9 (by kernel_rfl) (by kernel_rfl),
 Gt (k:= .u64) (zs:=Lib.pow10Tab) (jG h m4) (by kernel_rfl) (by kernel_rfl) Tryd.underlying192 Tryd.underlying178 (by kernel_rfl) (by kernel_rfl)⟩
theorem ET {w:World}{l:List (String×DataW Unit)}(h:laidMet Tryd.prog l w)(m1:("math/bits.deBruijn64tab",Rows.laid_math_bits_deBruijn64tab)∈l):nG≤w.heap.size:=
 NH (jG h m1) (by kernel_rfl)
end
section
open Go.RowKit Go.Sort
theorem qF:(Tryd.prog.info? 9).map (fun i=>(i.zero,i.size,i.bytes))=some (some (.string ⟨#[]⟩),1,16):=by kernel_rfl
theorem nK {w:World}{base size n:Nat}{e:TypeId}{v:Value}{xs:List Value}(h:w.ownsRow base e size v n xs):∃A c,v= .slice A n c:=by obtain⟨A,c,h,-⟩:=Rd.ZX h;exact⟨A,c,h⟩
theorem wO {ops:Array Oper}{rest:List Oper}{o:Oper}{a:Act}{Q:Exit->Act->World->Prop}(hgd:o.guard=none)(s x:Operand)
  (ho:o.op= .call {callee:= .builtin .append,args:= #[s,x],argTypes:= #[46,46]})
  (w1:World) (hsz:Nat) (hh:w1.heap.size=hsz) (base n c:Nat) (A:Option Addr) (xs:List Value) (u:B) (hs:a.eval s= .slice A n c) (hx:a.eval x= .slice (some ⟨hsz,0,none⟩) 1 1)
  (hown:w1.ownsRow base 9 1 (.slice A n c) n xs) (hn:n<=1000000000000) (hb:base<=w1.heap.size)
  (h:∀A' c' w',w'.ownsRow base 9 1 (.slice A' (n+1) c') (n+1) (xs++[.string ⟨u.toArray⟩])->w1.grownBy w' (Value.slice A n c).ownBlock->wpList Tryd.prog ops Q rest (a.put o.dst (.slice A' (n+1) c')) w'):
  wpList Tryd.prog ops Q (o::rest) a (w1.alloc (.cells #[.string ⟨u.toArray⟩] 9)):=by
 subst hh;obtain⟨i0,hi0,hz0,hz1,hz2⟩:=info_parts qF;refine fK _ hgd s x 46 ho base 9 i0 _ 1 16 Tryd.underlying46 hi0 hz0 hz1 hz2 rfl (by decide) (.slice A n c) n xs hs (hown.alloc _) (w1.heap.size+1) (some ⟨w1.heap.size,0,none⟩) 1 1 [.string ⟨u.toArray⟩] hx (Rd.newAt _ _ rfl #[.string ⟨u.toArray⟩] 9 1 1 rfl) (by simp[Value.oneCell']) (by simp only[maxLen];omega) (by omega) (by simp;omega) ?_;intro v' w' ho' hg _;obtain⟨A',c',rfl⟩:=nK ho';refine h A' c' w' ho' ⟨hg.os,hg.tape,hg.output,nt (by simp) hg.size,fun i hi hne=> ?_⟩;exact(hg.block i (by simp;omega) hne).trans (Below.heap_alloc _ _ _ hi)
theorem aJ {ops:Array Oper}{rest:List Oper}{o:Oper}{a:Act}{Q:Exit->Act->World->Prop}(hgd:o.guard=none)(s x:Operand)
  (ho:o.op= .call {callee:= .builtin .append,args:= #[s,x],argTypes:= #[46,46]})
  (w1:World) (base n c:Nat) (A:Option Addr) (xs:List Value) (u:B) (hs:a.eval s= .slice A n c) (hx:a.eval x= .slice (some ⟨w1.heap.size,0,none⟩) 1 1)
  (hown:w1.ownsRow base 9 1 (.slice A n c) n xs) (hn:n<=1000000000000) (hb:base<=w1.heap.size)
  (h:∀A' c' w',w'.ownsRow base 9 1 (.slice A' (n+1) c') (n+1) (xs++[.string ⟨u.toArray⟩])->w1.grownBy w' (Value.slice A n c).ownBlock->wpList Tryd.prog ops Q rest (a.put o.dst (.slice A' (n+1) c')) w'):
  wpList Tryd.prog ops Q (o::rest) a (w1.alloc (.cells #[.string ⟨u.toArray⟩] 9)):=
 wO hgd s x ho w1 w1.heap.size rfl base n c A xs u hs hx hown hn hb h
theorem bU {ops:Array Oper}{rest:List Oper}{o:Oper}{a:Act}{Q:Exit->Act->World->Prop}(hgd:o.guard=none)(s x:Operand)
  (ho:o.op= .call {callee:= .builtin .append,args:= #[s,x],argTypes:= #[46,46]})
  (w1:World) (base n c:Nat) (A:Option Addr) (xs:List Value) (Bd:Nat) (A2:Option Addr) (m c2:Nat) (ws:List B) (hs:a.eval s= .slice A n c) (hx:a.eval x= .slice A2 m c2)
  (hown:w1.ownsRow base 9 1 (.slice A n c) n xs) (hr:Rd w1 Bd A2 m 1 (strs ws)) (hn:n+m<=1000000000000) (hb:base<=w1.heap.size)
  (h:∀A' c' w',w'.ownsRow base 9 1 (.slice A' (n+m) c') (n+m) (xs++strs ws)->w1.grownBy w' (Value.slice A n c).ownBlock->wpList Tryd.prog ops Q rest (a.put o.dst (.slice A' (n+m) c')) w'):
  wpList Tryd.prog ops Q (o::rest) a w1:=by
 obtain⟨i0,hi0,hz0,hz1,hz2⟩:=info_parts qF;refine fK _ hgd s x 46 ho base 9 i0 _ 1 16 Tryd.underlying46 hi0 hz0 hz1 hz2 rfl (by decide) (.slice A n c) n xs hs hown Bd A2 m c2 (strs ws) hx hr (rC ws) (by simp only[maxLen];omega) (by omega) hb ?_;intro v' w' ho' hg _;obtain⟨A',c',rfl⟩:=nK ho';exact h A' c' w' ho' hg
def bY (w:World)(ws:List B)(e:Ending)(w':World):Prop:=∃A c,e= .returned (.slice A ws.length c)/\w'.ownsRow w.heap.size 9 1 (.slice A ws.length c) ws.length (strs ws)/\Below w.heap.size w w'
def Z9 (w:World)(ws:List B)(v:Value)(wr:World):Prop:=∃A c,v= .slice A ws.length c/\wr.ownsRow w.heap.size 9 1 (.slice A ws.length c) ws.length (strs ws)/\Below w.heap.size w wr
theorem Z9.nil (w:World):Z9 w [] (.slice none 0 0) w:=⟨none,0,rfl,⟨rfl,.inl ⟨rfl,rfl⟩⟩,aa0 _ _⟩
theorem Z9.next {w wr w1 w2:World}{ws ws' us:List B}{A A':Option Addr}{c c' n:Nat}(hb:Below w.heap.size w wr)(hb1:Below wr.heap.size wr w1)(ho:wr.ownsRow w.heap.size 9 1 (.slice A ws.length c) ws.length (strs ws))
  (h2:w2.ownsRow w.heap.size 9 1 (.slice A' n c') n (strs ws++strs us)) (hg:w1.grownBy w2 (Value.slice A ws.length c).ownBlock) (hw:ws'=ws++us):Z9 w ws' (.slice A' n c') w2:=by
 have hn:n=ws'.length:=by have:=h2.1;rw[hw,la];simp[yB] at this;omega
 subst hn;refine⟨A',c',rfl,by rw[hw,nN];rw[hw] at h2;exact h2,?_⟩;exact(hb.trans (hb1.mono hb.size)).grown hg (nt hb.size hb1.size) (fun g e=>(ho.lt g e).1)
def aaj (w:World)(ws:List B)(n:Nat)(A:Option Addr)(c:Nat)(wr:World):Prop:=n=ws.length/\wr.ownsRow w.heap.size 9 1 (.slice A n c) n (strs ws)/\Below w.heap.size w wr
theorem aaj.next {w wr w1 w2:World}{ws us:List B}{A A':Option Addr}{c c' n m:Nat}(h:aaj w ws n A c wr)(hb1:Below wr.heap.size wr w1)
  (h2:w2.ownsRow w.heap.size 9 1 (.slice A' m c') m (strs ws++strs us)) (hg:w1.grownBy w2 (Value.slice A n c).ownBlock):aaj w (ws++us) m A' c' w2:=by
 obtain⟨rfl,ho,hb⟩:=h;obtain⟨A2,c2,e,r1,r2⟩:=Z9.next hb hb1 ho h2 hg rfl;simp only[abQ] at e;obtain⟨rfl,rfl,rfl⟩:=e;exact⟨rfl,r1,r2⟩
theorem aaj.s {w wr:World}{ws:List B}{A:Option Addr}{c n:Nat}(h:aaj w ws n A c wr):Z9 w ws (.slice A n c) wr:=by obtain⟨rfl,ho,hb⟩:=h;exact⟨A,c,rfl,ho,hb⟩
theorem cZ {w:World}{base n m c size:Nat}{e:TypeId}{A:Option Addr}{xs:List Value}(h:w.ownsRow base e size (.slice A n c) n xs)(hn:n=m):Rd w w.heap.size A m size xs:=by subst hn;obtain⟨A',c',e,h'⟩:=Rd.ZX h;simp only[abQ,true_and] at e;rw[e.1];exact h'
theorem ae {w w':World}(hb:Below w.heap.size w w'){p:Addr}{v:Value}(h:w.cell? p=some v):w'.cell? p=some v:=(hb.cell (World.block_lt_of_cell? w p h)).trans h
theorem gu {α β:Type}(f:α->β)(l:List α)(k:Nat)(x:α)(h:l[k]? =some x):(l.take (k+1)).map f=(l.take k).map f++[f x]:=by obtain⟨hk,hg⟩:=aa2.1 h;rw[abg hk,hg];simp
theorem aN {α β:Type}(f:α->List β)(l:List α)(k:Nat)(x:α)(h:l[k]? =some x):(l.take (k+1)).flatMap f=(l.take k).flatMap f++f x:=by obtain⟨hk,hg⟩:=aa2.1 h;rw[abg hk,hg];simp
def PN (w:World)(g:Nat)(gs:List Zy):Prop:=∃A c,w.cell? ⟨g,1,none⟩=some (.slice A gs.length c)/\Sl ZK 9 w (FT w) A gs
theorem PN.below {w w':World}{g:Nat}{gs:List Zy}(h:PN w g gs)(hb:Below w.heap.size w w'):PN w' g gs:=by obtain⟨A,c,h1,h2⟩:=h;exact⟨A,c,(hb.cell (World.block_lt_of_cell? w _ h1)).trans h1,(KP.below hb).sl ZK.ok h2⟩
theorem MI (gs:List Zy)(n:Int)(h:n<0):aT gs n=63::af n:=by rw[aT,if_pos h]
theorem Na (gs:List Zy)(n:Int)(h:(gs.length:Int)<=n):aT gs n=63::af n:=by
 rw[aT];split
 ·rfl
 rw[abp (by omega)]
theorem Nc (gs:List Zy)(n:Int)(x:Zy)(h0:0<=n)(h:gs[n.toNat]? =some x):aT gs n=x.name:=by rw[aT,if_neg (by omega),h]
theorem iV (a b:B):(ByteArray.mk a.toArray)++⟨b.toArray⟩=⟨(a++b).toArray⟩:=by apply ByteArray.ext;simp
theorem ou (w:World)(g:Nat)(gs:List Zy)(n:Int)(hT:Tabs w)(hn:I64 n)(hP:PN w g gs)(hgl:gs.length<=1000000000000):
  Calls Tryd.prog 26 #[.pointer (some ⟨g,0,none⟩),.int .i64 n] w fun e w'=>e= .returned (.string ⟨(aT gs n).toArray⟩)/\Below w.heap.size w w':=by
 obtain⟨A,c,hc,hA⟩:=hP;by_cases h0:n<0
 ·have hnm:=hd0 (MI gs n h0);have hnum:=hd0 (aA w n hT hn);have happ:(ByteArray.mk #[63])++⟨(af n).toArray⟩=⟨(63::af n).toArray⟩:=iV [63] (af n);have hil:=jU hn;clear hn;go_enter Tryd.func26,Tryd.ntmps26
  go_wp2_with (go_at_call 21;refine hnum.out.mono ?_;rintro e w1 ⟨rfl,hb1⟩)
  go_ret
  exact⟨by rw[hnm.out];rfl,hb1⟩
 by_cases h1:(gs.length:Int)<=n
 ·have hnm:=hd0 (Na gs n h1);have hnum:=hd0 (aA w n hT hn);have happ:(ByteArray.mk #[63])++⟨(af n).toArray⟩=⟨(63::af n).toArray⟩:=iV [63] (af n);have hil:=jU hn;clear hn;go_enter Tryd.func26,Tryd.ntmps26
  go_wp2_with (go_at_call 21;refine hnum.out.mono ?_;rintro e w1 ⟨rfl,hb1⟩)
  go_ret
  exact⟨by rw[hnm.out];rfl,hb1⟩
 obtain⟨m,rfl⟩:∃m:Nat,n=m:=⟨n.toNat,by omega⟩
 have hm:m<gs.length:=by omega
 obtain⟨b,o,x,A3,c3,A4,c4,A5,c5,A6,c6,A7,c7,A8,c8,rfl,-,hx,q0,-⟩:=hA.ZF hm;have hnm:=hd0 (Nc gs m x (by omega) (by simpa using hx.out));clear hn hx h1 h0;go_enter Tryd.func26,Tryd.ntmps26
 go_wp2;go_ret
 exact⟨by rw[hnm.out];rfl,aa0 _ _⟩
theorem lJ (w:World)(A:Option Addr)(c:Nat)(l:List Int)(hT:Tabs w)(hA:Sl Zx 1 w (FT w) A l)(hl:l.length<=100000000000):
  Calls Tryd.prog 23 #[.slice A l.length c] w (bY w (l.map af)):=by
 go_enter Tryd.func23,Tryd.ntmps23
 go_wp2;go_loopw [3,8] (fun v i wr=>∃k:Nat,k<=l.length/\i= .int .i64 k/\Z9 w ((l.take k).map af) v wr) (fun _ i _=>l.length - (intOf i).toNat)
 case atStart=>exact⟨0,nz _,rfl,by simpa using Z9.nil w⟩
 case round=>
  obtain⟨k,hk,rfl,A3,c3,rfl,hown,hbl⟩:=hrel;have hlk:((l.take k).map af).length=k:=by simp;omega
  by_cases hlt:k<l.length
  ·obtain⟨b,o,x,rfl,-,hx,q1,hr⟩:=((KP.below hbl).sl Zx.ok hA).int hlt;have hn:=hd0 (aA wr x (hT.all hbl) hr);have HS:=hd0 (gu af l k x hx.out);have HL:=hd0 hlk;generalize hws:(l.take k).map af=ws at*
   have s0:=hbl.size;have hll:ws.length<=1000000000000:=by rw[HL.out];omega
   clear hx hr hws hlk;go_wp2_with (first
    |(go_at_call 21;refine hn.out.mono ?_;rintro e w1 ⟨rfl,hb1⟩;have s1:=hb1.size)
    |(at_builtin;refine aJ rfl (.tmp 12) (.tmp 15) rfl w1 w.heap.size ws.length c3 A3 (strs ws) (af x) rfl rfl (own_below hown hb1) hll (by omega) ?_;intro A4 c4 w2 ho2 hg2))
   go_roundw
   case rel=>exact⟨k+1,by omega,by simp,Z9.next hbl hb1 hown (us:=[af x]) ho2 hg2 HS.out⟩
   case measure=>simp[intOf];omega
  obtain rfl:k=l.length:=by omega
  have HL:Hid ((l.take l.length).map af=l.map af):=by show _=_;rw[aa6]
  generalize hws:(l.take l.length).map af=ws at*
  clear hws hlk;go_wp2;go_ret
  rw[<-HL.out];exact⟨A3,c3,rfl,hown,hbl⟩
theorem zH (w:World)(g:Nat)(gs:List Zy)(A:Option Addr)(c:Nat)(l:List Int)(hT:Tabs w)(hP:PN w g gs)(hgl:gs.length<=1000000000000)(hA:Sl Zx 1 w (FT w) A l)(hl:l.length<=100000000000):
  Calls Tryd.prog 72 #[.pointer (some ⟨g,0,none⟩),.slice A l.length c] w (bY w (l.map (aT gs))):=by
 go_enter Tryd.func72,Tryd.ntmps72
 go_wp2;go_loopw [5,10] (fun v i wr=>∃k:Nat,k<=l.length/\i= .int .i64 k/\Z9 w ((l.take k).map (aT gs)) v wr) (fun _ i _=>l.length - (intOf i).toNat)
 case atStart=>exact⟨0,nz _,rfl,by simpa using Z9.nil w⟩
 case round=>
  obtain⟨k,hk,rfl,A3,c3,rfl,hown,hbl⟩:=hrel;have hlk:((l.take k).map (aT gs)).length=k:=by simp;omega
  by_cases hlt:k<l.length
  ·obtain⟨b,o,x,rfl,-,hx,q1,hr⟩:=((KP.below hbl).sl Zx.ok hA).int hlt;have hn:=hd0 (ou wr g gs x (hT.all hbl) hr (hP.below hbl) hgl);have HS:=hd0 (gu (aT gs) l k x hx.out);have HL:=hd0 hlk;generalize hws:(l.take k).map (aT gs)=ws at*
   have s0:=hbl.size;have hll:ws.length<=1000000000000:=by rw[HL.out];omega
   clear hx hr hws hlk;go_wp2_with (first
    |(go_at_call 26;refine hn.out.mono ?_;rintro e w1 ⟨rfl,hb1⟩;have s1:=hb1.size)
    |(at_builtin;refine aJ rfl (.tmp 14) (.tmp 18) rfl w1 w.heap.size ws.length c3 A3 (strs ws) (aT gs x) rfl rfl (own_below hown hb1) hll (by omega) ?_;intro A4 c4 w2 ho2 hg2))
   go_roundw
   case rel=>exact⟨k+1,by omega,by simp,Z9.next hbl hb1 hown (us:=[aT gs x]) ho2 hg2 HS.out⟩
   case measure=>simp[intOf];omega
  obtain rfl:k=l.length:=by omega
  have HL:Hid ((l.take l.length).map (aT gs)=l.map (aT gs)):=by show _=_;rw[aa6]
  generalize hws:(l.take l.length).map (aT gs)=ws at*
  clear hws hlk;go_wp2;go_ret
  rw[<-HL.out];exact⟨A3,c3,rfl,hown,hbl⟩
end
section
open Go.RowKit
def TS (ts:List TypeId)(base:Nat)(w:World):Bs:=fun b=>base<=b/\∃cs t,Bk w b t cs/\t∈ts
theorem TS.lt {ts:List TypeId}{base:Nat}{w:World}:∀b,TS ts base w b->b<w.heap.size:=fun b ⟨_,_,_,h,_⟩=>h.lt
theorem TS.mono {ts ts':List TypeId}{base base':Nat}{w:World}(h:∀t∈ts,t∈ts')(hb:base'<=base):∀b,TS ts base w b->TS ts' base' w b:=fun b ⟨h1,cs,t,h2,h3⟩=>⟨by omega,cs,t,h2,h t h3⟩
def Sp (m:Nat)(e:TypeId)(w w':World):Prop:=∃row,w.grownBy w' row/\∀x,row=some x->m<=x/\∃cs,Bk w x e cs
section
variable {m:Nat} {e t:TypeId} {w w':World}
theorem Sp.size (h:Sp m e w w'):w.heap.size<=w'.heap.size:=by obtain⟨row,hg,_⟩:=h;exact hg.size
theorem Sp.bk {g:Nat}{cs:Array Value}(h:Sp m e w w')(hb:Bk w g t cs)(hne:t≠e):Bk w' g t cs:=by
 obtain⟨row,hg,hr⟩:=h;exact(hg.block g hb.lt (fun e'=>by
  obtain⟨-,cs',hk⟩:=hr g e'.symm;exact hne (iT hb hk).1)).trans hb
theorem Sp.own {base size n:Nat}{v:Value}{xs:List Value}(h:Sp m e w w')(ho:w.ownsRow base t size v n xs)(hne:t≠e):w'.ownsRow base t size v n xs:=by
 obtain⟨row,hg,hr⟩:=h;refine ho.kept hg ?_;cases hb:v.ownBlock with
 |none=>exact .inl rfl
 |some g=>exact .inr (fun e'=>by
   obtain⟨-,cs',hk⟩:=hr g e'.symm;obtain⟨cur,hk2⟩:=dh ho g hb;exact hne (iT hk2 hk).1)
theorem Sp.ts {ts:List TypeId}{base:Nat}(h:Sp m e w w')(hts:e ∉ ts):Same (TS ts base w) w w'/\∀b,TS ts base w b->TS ts base w' b:=by
 have key:∀b,TS ts base w b->w'.heap[b]? =w.heap[b]? :=fun b ⟨_,cs,t',hk,ht⟩=>by
  obtain⟨row,hg,hr⟩:=h;exact hg.block b hk.lt (fun e'=>by
   obtain⟨-,cs',hk'⟩:=hr b e'.symm;exact hts ((iT hk hk').1 ▸ ht))
 exact⟨key,fun b hb=>by
  obtain⟨h1,cs,t',hk,ht⟩:=hb;exact⟨h1,cs,t',(key b ⟨h1,cs,t',hk,ht⟩).trans hk,ht⟩⟩
theorem Sp.sl {α:Type}{R:ZL α}(ok:R.Ok){size:Nat}{A:Option Addr}{xs:List α}{ts:List TypeId}{base:Nat}(h:Sp m e w w')(hts:e ∉ ts)(hs:Sl R size w (TS ts base w) A xs):Sl R size w' (TS ts base w') A xs:=hs.moved ok (h.ts hts)
theorem Sp.fl {α:Type}{R:ZL α}(ok:R.Ok){size:Nat}{cells:List Value}{xs:List α}{ts:List TypeId}{base:Nat}(h:Sp m e w w')(hts:e ∉ ts)(hs:Fl R size w (TS ts base w) cells xs):Fl R size w' (TS ts base w') cells xs:=hs.moved ok (h.ts hts)
theorem Sp.rd {A:Option Addr}{n size:Nat}{cs:List Value}(h:Sp m e w w')(hm:m<=w.heap.size)(hr:Rd w m A n size cs):Rd w' m A n size cs:=by obtain⟨row,hg,hx⟩:=h;exact hr.grown hg hm (fun g eg=>(hx g eg).1)
theorem Sp.mk {fs:Nat->Value}{lp:Int}(h:Sp m e w w')(hk:Mk w m fs lp)(hne:gm≠e):Mk w' m fs lp:=by have hm:=hk.lt;obtain⟨A,n,c,a,zs,h1,h2,h3,h4,h5⟩:=hk;exact⟨A,n,c,a,zs,h.bk h1 hne,h2,h3,h.rd (by omega) h4,h5⟩
theorem Sp.below (hb:Below w.heap.size w w'):Sp m e w w':=⟨none,bQ hb none,fun x hx=>by cases hx⟩
theorem Sp.next {fs:Nat->Value}{lp:Int}(hk:Mk w m fs lp)(hv:Mv m w w'):Sp m gm w w':=⟨some m,hv,fun x hx=>by
 injection hx with hx
 subst hx;obtain⟨A,n,c,a,zs,h1,-⟩:=hk;exact⟨ag _,_,h1⟩⟩
theorem Sp.push {base size n:Nat}{v:Value}{xs:List Value}(ho:w.ownsRow base e size v n xs)(hm:m<=base)(hg:w.grownBy w' v.ownBlock):Sp m e w w':=⟨_,hg,fun x hx=>⟨nt hm (ho.lt x hx).1,dh ho x hx⟩⟩
theorem Sp.set {g:Nat}{cs:Array Value}(hb:Bk w g e cs)(hm:m<=g)(j:Nat)(u:Value):Sp m e w (w.setCell ⟨g,j,none⟩ u):=⟨some g,aV (World.grownBy.refl _ _) (.inl rfl) u,fun x hx=>by
 injection hx with hx
 subst hx;exact⟨hm,cs,hb⟩⟩
theorem qL (m:Nat)(w:World):Mv m w w:=World.grownBy.refl _ _
theorem kF {w0:World}{row:Option Nat}(h:Mv m w0 w)(hg:w.grownBy w' row)(hr:∀x,row=some x->w0.heap.size<=x\/x=m):Mv m w0 w':=
 ⟨hg.os.trans h.os,hg.tape.trans h.tape,hg.output.trans h.output,nt h.size hg.size,fun i hi hne=>(hg.block i (aa9 hi h.size) (fun e'=>by
  rcases hr i e'.symm with h1|h1
  ·omega
  exact hne (by rw[h1]))).trans (h.block i hi hne)⟩
theorem dX {w0:World}(h:Mv m w0 w)(hb:Below w.heap.size w w'):Mv m w0 w':=kF h (bQ hb none) (fun x hx=>by cases hx)
theorem cO {w0:World}(h:Mv m w0 w)(hv:Mv m w w'):Mv m w0 w':=kF h hv (fun x hx=>by injection hx with hx;exact .inr hx.symm)
theorem eX {w0:World}{base size n:Nat}{v:Value}{xs:List Value}(h:Mv m w0 w)(ho:w.ownsRow base e size v n xs)(hb:w0.heap.size<=base)(hg:w.grownBy w' v.ownBlock):Mv m w0 w':=kF h hg (fun x hx=> .inl (nt hb (ho.lt x hx).1))
theorem kG {w0:World}{g:Nat}(h:Mv m w0 w)(hg:w0.heap.size<=g)(j:Nat)(u:Value):Mv m w0 (w.setCell ⟨g,j,none⟩ u):=kF h (aV (World.grownBy.refl _ _) (.inl rfl) u) (fun x hx=>by injection hx with hx;exact .inl (by rw[<-hx];exact hg))
theorem aZ {b o:Nat}{u:Value}(hv:Mv m w w')(hne:b≠m)(h:w.cell? ⟨b,o,none⟩=some u):w'.cell? ⟨b,o,none⟩=some u:=by have hb:=World.block_lt_of_cell? w _ h;exact Same.cell (S:=fun x=>x=b) (fun x hx=>by subst hx;exact hv.block x hb (fun e'=>hne (by injection e'))) rfl h
theorem aY {α:Type}{R:ZL α}{size:Nat}{cells:List Value}{xs:List α}{A:Option Addr}{base b0 n c:Nat}{ts:List TypeId}(h:w.ownsRow base e size (.slice A n c) n cells)(hf:Fl R size w (TS ts b0 w) cells xs)(he:e∈ts)(hb:b0<=base)(hsz:0<size):Sl R size w (TS ts b0 w) A xs:=
 Sl.aaF h hf (fun g hg=>by
  obtain⟨cur,hk⟩:=dh h g hg;exact⟨by have:=(h.lt g hg).1;omega,cur,e,hk,he⟩) hsz
theorem Sl.ts {α:Type}{R:ZL α}(ok:R.Ok){size:Nat}{A:Option Addr}{xs:List α}{ts ts':List TypeId}{base base':Nat}(h:Sl R size w (TS ts base w) A xs)(hs:∀t∈ts,t∈ts')(hb:base'<=base):Sl R size w (TS ts' base' w) A xs:=h.mono ok (TS.mono hs hb)
end
theorem di {e t size:Nat}(E:ElT e t size)(ty:TypeId)(w1:World)(base n c:Nat)(A:Option Addr)(xs:List Value)(news:Array Value)(hnl:news.size=size)(hown:w1.ownsRow base e size (.slice A n c) n xs)(h1:∀u∈news.toList,u.oneCell'=true)(hn:n<=10000000000)(hb:base<=w1.heap.size):
  ∃A' c' w',(Builtin.append_ #[t,t] ty #[.slice A n c,.slice (some ⟨w1.heap.size,0,none⟩) 1 1]).run Tryd.prog (w1.alloc (.cells news e))= .ok (.slice A' (n+1) c') w'/\w'.ownsRow base e size (.slice A' (n+1) c') (n+1) (xs++news.toList)/\w1.grownBy w' (Value.slice A n c).ownBlock/\Loc w1 (.slice A n c) (.slice A' (n+1) c'):=by
 obtain⟨A',c',w',hrun,h2,h3,h4⟩:=vk E ty (w1.alloc (.cells news e)) base n c A xs (hown.alloc _) (w1.heap.size+1) (some ⟨w1.heap.size,0,none⟩) 1 1 news.toList (Rd.newAt _ _ rfl news e 1 size (by omega)) h1 (by omega) (by simp;omega);refine⟨A',c',w',hrun,h2,⟨h3.os,h3.tape,h3.output,nt (by simp) h3.size,fun i hi hne=> ?_⟩,h4.imp id fun h5 g hg=>by have:=h5 g hg;simp at this;omega⟩;exact(h3.block i (by simp;omega) hne).trans (Below.heap_alloc _ _ _ hi)
end
section
open Go.RowKit
theorem IP (z:Int)(k:Nat)(h:1<=k):∃r:Int,z.tmod (k:Int)=r/\ -(k:Int)<r/\r<k:=by
 refine⟨_,rfl,?_,?_⟩
 ·rw[Int.tmod_eq_emod];have h1:=Int.emod_nonneg z (show(k:Int)≠0 by omega);split
  ·omega
  rename_i hn;have h2:z % (k:Int)≠0:=fun e=>hn (.inr (Int.dvd_of_emod_eq_zero e))
  omega
 exact Int.tmod_lt_of_pos z (by omega)
theorem KR (r:Int)(k:Nat)(h:1<=k)(h0:0<=r):∃x:Nat,r.tmod (k:Int)=x/\x<k:=by
 refine⟨(r % (k:Int)).toNat,?_,?_⟩
 ·rw[Int.tmod_eq_emod_of_nonneg h0,Int.toNat_of_nonneg (Int.emod_nonneg _ (by omega))]
 have:=Int.emod_lt_of_pos r (show(0:Int)<k by omega);have:=Int.emod_nonneg r (show(k:Int)≠0 by omega);omega
def zD (w:World)(m:Nat)(fs:Nat->Value)(lp:Int)(k:Nat)(e:Ending)(w':World):Prop:=∃x:Nat,x<k/\e= .returned (.int .i64 x)/\Mk w' m fs lp/\Mv m w w'
theorem ak (w:World)(m:Nat)(fs:Nat->Value)(lp:Int)(k:Nat)(h:Mk w m fs lp)(h1:1<=k)(hk:k<=1000000):
  Calls Tryd.prog 36 #[.pointer (some ⟨m,0,none⟩),.int .i64 k] w (zD w m fs lp k):=by
 obtain⟨A,n,c,a,zs,hb,ha,hn,hr,hz⟩:=h;have HB:=hd0 hb;have HR:=hd0 hr;have HZ:=hd0 hz;have q0:w.cell? ⟨m,0,none⟩=some (.slice A n c):=hb.cell 0;have q1:w.cell? ⟨m,1,none⟩=some (.int .i64 a):=hb.cell 1;have y1:=hb.frozen 1;have zm:=hb.lt;by_cases hlt:a<n
 ·obtain⟨b,o,z,rfl,hbm,hx,q2⟩:=hr.atI hlt;have hzi:=hz z (aa8 hx.out);obtain⟨r,hr1,hr2,hr3⟩:=IP z k h1;obtain⟨x,hx1,hx2⟩:=KR (r+k) k h1 (by omega);unfold I64 at hzi;clear hb hr hz hx;go_enter Tryd.func36,Tryd.ntmps36
  go_wp2_with fail
  go_quiet (fail)
  go_wp2_with fail
  go_quiet (fail)
  go_wp2_with fail
  go_ret
  refine⟨x,hx2,rfl,?_,aV (uO (World.grownBy.refl _ _) _) (.inl rfl) _⟩;refine⟨some ⟨b,o,none⟩,n,c,a+1,zs,?_,hlt,hn,(HR.out.drewN _).setCell (p:=⟨m,1,none⟩) (ag _) _,HZ.out⟩;exact Bk.set (w:=w.drewN _) HB.out 1 (.int .i64 (a+1))
 have e1:decide ((n:Int)<=a)=true:=by simp;omega
 clear hb hr hz;go_enter Tryd.func36,Tryd.ntmps36
 go_wp2_with fail
 go_quiet (fail)
 go_wp2_with fail
 go_ret
 exact⟨0,h1,rfl,⟨A,n,c,a,zs,HB.out,ha,hn,HR.out.drewN _,HZ.out⟩,uO (World.grownBy.refl _ _) _⟩
end
end Go.Proofs.YtkijckccfookeaaDoor
