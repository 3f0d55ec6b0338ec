/- Lemmas. -/
import Derived.Test.YtkijckccfookeaaDoorW04
set_option linter.unusedVariables false
set_option linter.unusedSimpArgs false
set_option maxRecDepth 100000
set_option maxHeartbeats 32000000
namespace Go.Proofs.YtkijckccfookeaaDoor
section
open Go.RowKit
def N9 (n:Int):Prop:= -999999999<=n/\n<=999999999
def gU (p:List Ins):Prop:=∀i∈p,1<=i.op/\i.op<=39/\N9 i.a
def In (n:Nat)(x:Int):Prop:=0<=x/\x<n
def iP:Nat->List Int->Nat->Prop
 |fr,[],len=>fr=len
 |fr,e::es,len=>(fr:Int)<=e/\e<len/\iP (e.toNat+1) es len
structure OkG (n:Nat)(g:Zy):Prop where
 name:nameB g.name=true
 Z5:N9 g.advance
 pts:∀p∈g.points,N9 p.x/\N9 p.y
 ends:iP 0 g.ends g.points.length
 parts:∀p∈g.parts,In n p.ZF/\N9 p.x/\N9 p.y
 anch:∀a∈g.anchors,1<=a.kind/\a.kind<=4/\N9 a.ZO/\N9 a.x/\N9 a.y
 aax:∀d∈g.deltas,N9 d.region/\N9 d.point/\N9 d.x/\N9 d.y
 hint:gU g.hint
def Bh (n:Nat)(s:List Int):Prop:=s.Pairwise (· < ·)/\∀x∈s,In n x
structure OkR (n:Nat)(kind:Int)(r:Z8):Prop where
 back:∀s∈r.back,Bh n s
 in':∀s∈r.in',Bh n s
 ahead:∀s∈r.ahead,Bh n s
 out:∀x∈r.out,In n x
 calls:∀c∈r.calls,N9 c.at'/\N9 c.lookup
 x:N9 r.x
 one:kind=1\/kind=5->∃s,r.in'=[s]/\r.out.length=s.length
 outs:kind=4\/6<=kind->r.out=[]
 noC:kind≠4->r.calls=[]
 noX:kind≠6->r.x=0
structure aav (f:Fnt):Prop where
 unit:N9 f.unit
 ZA:∀a∈f.ZA,nameB a.name=true/\N9 a.min'/\N9 a.aas/\N9 a.max'
 regs:∀r∈f.regions,∀t∈r.ZU,N9 t.start/\N9 t.peak/\N9 t.stop
 ZB:∀n∈f.ZB,N9 n
 funcs:∀p∈f.funcs,gU p
 apart:(f.Zt.map (·.name)).Nodup
 Zt:∀g∈f.Zt,OkG f.Zt.length g
 chars:∀c∈f.chars,N9 c.rune/\In f.Zt.length c.ZF
 Zu:∀l∈f.Zu,1<=l.kind/\l.kind<=8/\∀r∈l.rules,OkR f.Zt.length l.kind r
 aal:∀x∈f.features,nameB x.name=true/\∀n∈x.Zu,N9 n
 few:f.Zt.length<=1000
def yN (c:UInt8):Bool:=kK c||c==45
theorem kU (u:Nat):∀c∈Lib.decDigits u,kK c=true:=by
 induction u using Nat.strongRecOn with
 |_ u ih=>
  rw[Lib.decDigits];split
  ·intro c hc;simp only[aa1] at hc;subst hc;rw[oC,UInt8.toNat_ofNat'];omega
  intro c hc;rw[aa5,aa1] at hc;rcases hc with hc|rfl
  ·exact ih (u / 10) (by omega) c hc
  rw[oC,UInt8.toNat_ofNat'];omega
theorem AX (u:Nat):rG (Lib.decDigits u)=u:=by
 induction u using Nat.strongRecOn with
 |_ u ih=>
  rw[Lib.decDigits];split
  ·have e:[UInt8.ofNat (48+u)]=[]++[UInt8.ofNat (48+u)]:=rfl;rw[e,xh,UInt8.toNat_ofNat'];have:rG []=0:=rfl;omega
  rw[xh,ih (u / 10) (by omega),UInt8.toNat_ofNat'];omega
theorem Ky (k:Nat):∀u,u<10 ^ (k+1)->Lib.nDigits u<=k+1:=by
 induction k with
 |zero=>intro u hu;rw[Lib.nDigits_small (by simpa using hu)];exact ag _
 |succ k ih=>
  intro u hu;by_cases h:u<10
  ·rw[Lib.nDigits_small h];omega
  rw[Lib.nDigits_big h];have:=ih (u / 10) (by rw[Nat.pow_succ] at hu;omega);omega
theorem qQ (u:Nat)(h:u<=999999999):1<=(Lib.decDigits u).length/\(Lib.decDigits u).length<=9:=by rw[Lib.decDigits_length];exact⟨Lib.nDigits_pos u,Ky 8 u (by show u<1000000000;omega)⟩
theorem Az (u:Nat)(h:u<=999999999):zM (Lib.decDigits u)=true:=IZ _ (kU u) (qQ u h).1 (qQ u h).2
theorem xY (u:Nat):∃c r,Lib.decDigits u=c::r/\c≠45:=by
 cases h:Lib.decDigits u with
 |nil=>have:=Lib.decDigits_length u;have:=Lib.nDigits_pos u;rw[h] at*;simp at*;omega
 |cons c r=>
  refine⟨c,r,rfl,fun e=> ?_⟩;have:=kU u c (by rw[h];simp);rw[e] at this
  revert this
  decide
theorem bJ (n:Int)(h:N9 n):xU (af n)=true/\dD (af n)=n:=by
 unfold N9 at h;unfold af Lib.itoa;split
 ·have e:jm (45::Lib.decDigits n.natAbs)=Lib.decDigits n.natAbs:=rfl;have e2:signed (45::Lib.decDigits n.natAbs)=true:=rfl;have e3:=Az n.natAbs (by omega);refine⟨by rw[xU,e,e3],?_⟩;rw[dD,e,e2,if_pos e3,if_pos rfl,AX];omega
 obtain⟨c,r,h1,h2⟩:=xY n.toNat;have e:jm (Lib.decDigits n.toNat)=Lib.decDigits n.toNat/\signed (Lib.decDigits n.toNat)=false:=by
  rcases zS (Lib.decDigits n.toNat) with⟨r',h,_⟩|⟨h3,h4,_⟩
  ·rw[h1] at h;injection h with h _
   exact absurd h h2
  exact⟨h3,h4⟩
 have e3:=Az n.toNat (by omega);refine⟨by rw[xU,e.1,e3],?_⟩;rw[dD,e.1,e.2,if_pos e3,AX];simp;omega
theorem jc (n:Int):∀c∈af n,yN c=true:=by
 intro c hc;unfold af Lib.itoa at hc;split at hc
 ·rw[abd] at hc;rcases hc with rfl|hc
  ·decide
  simp[yN,kU _ c hc]
 simp[yN,kU _ c hc]
theorem Rf (n:Int):af n≠[]:=by
 unfold af Lib.itoa;split
 ·simp
 obtain⟨c,r,h1,h2⟩:=xY n.toNat;rw[h1];simp
theorem dF {c:UInt8}(h:yN c=true):nZ c=true/\c≠58/\c≠44/\c≠42/\c≠64/\c≠47/\c≠62/\c≠91/\c≠93:=by
 simp only[yN,Bool.or_eq_true,oC,beq_iff_eq] at h;refine⟨?_,?_,?_,?_,?_,?_,?_,?_,?_⟩
 ·simp only[nZ,abo,bne_iff_ne,ne_eq];refine⟨⟨⟨?_,?_⟩,?_⟩,?_⟩<;>(rintro rfl;revert h;decide)
 all_goals (rintro rfl;revert h;decide)
theorem jH (n:Int):aP (af n)=true:=by simp only[aP,abo,Bool.not_eq_true',List.isEmpty_eq_false_iff,abB];exact⟨Rf n,fun c hc=>(dF (jc n c hc)).1⟩
theorem dn (n:Int)(h:N9 n)(e:Int):fZ e (af n)=e:=by rw[fZ,if_neg (by rw[(bJ n h).1];simp)]
theorem lC (l:List Int)(h:∀n∈l,N9 n)(e:Int):ku e (l.map af)=e:=by
 induction l generalizing e with
 |nil=>rfl
 |cons n r ih=>have:ku e ((n::r).map af)=ku (fZ e (af n)) (r.map af):=rfl;rw[this,dn n (h n (by simp)),ih (fun m hm=>h m (by simp[hm]))]
theorem rf (l:List Int)(h:∀n∈l,N9 n):(l.map af).map dD=l:=by
 rw[List.map_map]
 conv=>rhs;rw[<-List.map_id l]
 exact List.map_congr_left (fun n hn=>(bJ n (h n hn)).2)
theorem FC {s:B}(h:nameB s=true):∀c∈s,nZ c=true/\c≠58/\c≠44/\c≠42/\c≠64/\c≠47/\c≠62/\c≠91/\c≠93:=by
 intro c hc;obtain⟨k,hk⟩:=abk.1 hc;have ha:nameAt k c=true:=by rw[<-Bool.not_eq_false];intro hf;rw[IE s k c hk hf] at h;cases h
 rw[Dj] at ha;refine⟨?_,?_,?_,?_,?_,?_,?_,?_,?_⟩
 ·simp only[nZ,abo,bne_iff_ne,ne_eq];refine⟨⟨⟨?_,?_⟩,?_⟩,?_⟩<;>(rintro rfl;simp at ha)
 all_goals (rintro rfl;simp at ha)
theorem LY {s:B}(h:nameB s=true):s≠[]:=by
 rintro rfl
 revert h
 decide
theorem iZ {s:B}(h:nameB s=true):aP s=true:=by simp only[aP,abo,Bool.not_eq_true',List.isEmpty_eq_false_iff,abB];exact⟨LY h,fun c hc=>(FC h c hc).1⟩
theorem rH {s:B}(h:nameB s=true)(e:Int):mf e s=e:=by rw[mf,if_neg (by rw[h];simp)]
theorem yX {c:UInt8}{a b:B}(h:∀d∈a,d≠c):lh c (a++c::b)=a/\mG c (a++c::b)=b:=by
 induction a with
 |nil=>simp[lh,mG]
 |cons d r ih=>
  obtain⟨i1,i2⟩:=ih (fun x hx=>h x (by simp[hx]));have hd:(d !=c)=true:=by simpa using h d (by simp)
  constructor
  ·show List.takeWhile (· !=c) (d::(r++c::b))=_;rw[List.takeWhile_cons_of_pos (p:=fun x=>x !=c) hd];exact congrArg _ i1
  show(List.dropWhile (· !=c) (d::(r++c::b))).drop 1=_;rw[List.dropWhile_cons_of_pos (p:=fun x=>x !=c) hd];exact i2
theorem PE {c:UInt8}{a:B}(h:∀d∈a,d≠c):lh c a=a/\mG c a=[]:=by
 induction a with
 |nil=>simp[lh,mG]
 |cons d r ih=>
  obtain⟨i1,i2⟩:=ih (fun x hx=>h x (by simp[hx]));have hd:(d !=c)=true:=by simpa using h d (by simp)
  constructor
  ·show List.takeWhile (· !=c) (d::r)=_;rw[List.takeWhile_cons_of_pos (p:=fun x=>x !=c) hd];exact congrArg _ i1
  show(List.dropWhile (· !=c) (d::r)).drop 1=_;rw[List.dropWhile_cons_of_pos (p:=fun x=>x !=c) hd];exact i2
theorem count_none {c:UInt8}{a:B}(h:∀d∈a,d≠c):a.count c=0:=List.count_eq_zero.2 (fun hm=>h c hm rfl)
theorem oJ {c:UInt8}{a:B}(h:∀d∈a,d≠c):a.contains c=false:=by rw[<-Bool.not_eq_true,List.contains_iff_mem];exact fun hm=>h c hm rfl
theorem Jc:∀k:Fin 39,∃s,opNames[k.val]? =some s/\Eg s=(k.val:Int)+1/\aP s=true/\(∀c∈s,c≠58/\c≠44/\c≠42/\c≠47/\c≠62):=by decide+kernel
theorem Em (n:Int)(h1:1<=n)(h2:n<=39):Eg (fJ n)=n/\aP (fJ n)=true/\∀c∈fJ n,c≠58/\c≠44/\c≠42/\c≠47/\c≠62:=by
 obtain⟨s,e1,e2,e3,e4⟩:=Jc ⟨(n - 1).toNat,by omega⟩;have:fJ n=s:=by unfold fJ pick;rw[if_neg (by omega)];simp only at e1;rw[e1];rfl
 rw[this];simp only at e2;exact⟨by omega,e3,e4⟩
theorem Iu (i:Ins)(h:1<=i.op/\i.op<=39/\N9 i.a)(e:Int):Bf e (aX i)=e/\BC (aX i)=i/\(aX i).count 58<=1/\aP (aX i)=true:=by
 obtain⟨h1,h2,h3⟩:=h;obtain⟨f1,f2,f3⟩:=Em i.op h1 h2;have hc:∀d∈fJ i.op,d≠58:=fun d hd=>(f3 d hd).1
 by_cases h0:i.a=0
 ·have e1:aX i=fJ i.op:=by simp[aX,h0]
  obtain⟨c1,c2⟩:=PE hc;rw[e1,Bf,BC,oJ hc,c1,f1,count_none hc];refine⟨?_,?_,by omega,f2⟩
  ·simp;omega
  cases i
  simp_all
 have e1:aX i=fJ i.op++58::af i.a:=by simp[aX,h0]
 obtain⟨c1,c2⟩:=yX (b:=af i.a) hc;have hm:(fJ i.op++58::af i.a).contains 58=true:=by simp
 have hn:∀d∈af i.a,d≠58:=fun d hd=>(dF (jc _ d hd)).2.1
 rw[e1,Bf,BC,if_pos hm,if_pos hm,c1,c2,f1,(bJ i.a h3).2];refine⟨?_,?_,?_,?_⟩
 ·rw[if_neg (by omega),dn _ h3]
 ·cases i;rfl
 ·rw[List.count_append,List.count_cons,count_none hc,count_none hn];simp
 simp only[aP,abo,Bool.not_eq_true',List.isEmpty_eq_false_iff,abB,aa5,abd];refine⟨by simp,fun c hc=> ?_⟩;rcases hc with hc|rfl|hc
 ·exact mP f2 c hc
 ·decide
 exact(dF (jc _ c hc)).1
theorem qj (p:List Ins)(h:gU p)(e:Int):(p.map aX).foldl Bf e=e/\(p.map aX).map BC=p/\xP (p.map aX)=true/\∀w∈p.map aX,aP w=true:=by
 induction p generalizing e with
 |nil=>exact⟨rfl,rfl,rfl,by simp⟩
 |cons i r ih=>
  obtain⟨a1,a2,a3,a4⟩:=Iu i (h i (by simp)) e;obtain⟨b1,b2,b3,b4⟩:=ih (fun j hj=>h j (by simp[hj])) e;refine⟨?_,?_,?_,?_⟩
  ·rw[aba,abr,a1,b1]
  ·rw[aba,aba,a2,b2]
  ·unfold xP at b3 ⊢;rw[aba,List.all_cons,b3];simpa using a3
  intro w hw;rw[aba,abd] at hw;rcases hw with rfl|hw
  ·exact a4
  exact b4 w hw
theorem LP (p:Pt)(h:N9 p.x/\N9 p.y)(e:Int):Gi e (dN p)=e/\FP (dN p)=p/\uV (dN p)=true/\aP (dN p)=true:=by
 obtain⟨h1,h2⟩:=h;have n1:∀d∈af p.x,d≠44:=fun d hd=>(dF (jc _ d hd)).2.2.1
 have n2:∀d∈af p.y,d≠44:=fun d hd=>(dF (jc _ d hd)).2.2.1
 have s1:∀d∈af p.x,d≠42:=fun d hd=>(dF (jc _ d hd)).2.2.2.1
 have s2:∀d∈af p.y,d≠42:=fun d hd=>(dF (jc _ d hd)).2.2.2.1
 have hs:∀d∈af p.x++44::af p.y,d≠42:=by
  intro d hd;rw[aa5,abd] at hd;rcases hd with hd|rfl|hd
  ·exact s1 d hd
  ·decide
  exact s2 d hd
 obtain⟨c1,c2⟩:=yX (b:=af p.y) n1;have hcnt:(af p.x++44::af p.y).count 44=1:=by rw[List.count_append,List.count_cons,count_none n1,count_none n2];simp
 have htok:∀c∈af p.x++44::af p.y,nZ c=true:=by
  intro d hd;rw[aa5,abd] at hd;rcases hd with hd|rfl|hd
  ·exact(dF (jc _ d hd)).1
  ·decide
  exact(dF (jc _ d hd)).1
 cases hon:p.on with
 |true=>
  have e1:dN p=af p.x++44::af p.y:=by simp[dN,hon]
  have hl:(af p.x++44::af p.y).getLast? ≠some 42:=fun h=>hs 42 (List.mem_of_getLast? h) rfl
  have hu:kD (af p.x++44::af p.y)=af p.x++44::af p.y:=by rw[kD,if_neg hl]
  rw[e1,Gi,FP,uV,hu,c1,c2,hcnt,oJ hs,dn _ h1,dn _ h2,(bJ _ h1).2,(bJ _ h2).2];refine⟨rfl,?_,rfl,?_⟩
  ·cases p
   simp_all
  simp only[aP,abo,Bool.not_eq_true',List.isEmpty_eq_false_iff,abB];exact⟨by simp,htok⟩
 |false=>
  have e1:dN p=(af p.x++44::af p.y)++[42]:=by simp[dN,hon]
  have hl:((af p.x++44::af p.y)++[42]).getLast? =some 42:=List.getLast?_concat;have hu:kD ((af p.x++44::af p.y)++[42])=af p.x++44::af p.y:=by rw[kD,if_pos hl,List.dropLast_concat]
  have hcnt2:((af p.x++44::af p.y)++[42]).count 44=1:=by rw[List.count_append,hcnt];rfl
  have hidx:((af p.x++44::af p.y)++[42]).idxOf 42=(af p.x++44::af p.y).length:=by rw[List.idxOf_append,if_neg (fun hm=>hs 42 hm rfl)];simp
  rw[e1,Gi,FP,uV,hu,c1,c2,hcnt2,hidx,hl,dn _ h1,dn _ h2,(bJ _ h1).2,(bJ _ h2).2];refine⟨rfl,?_,?_,?_⟩
  ·cases p
   simp_all
  ·simp
  simp only[aP,abo,Bool.not_eq_true',List.isEmpty_eq_false_iff,abB,aa5 (s:=af p.x++44::af p.y),aa1];refine⟨by simp,fun c hc=> ?_⟩;rcases hc with hc|rfl
  ·exact htok c hc
  decide
theorem yA (l:List Pt)(h:∀p∈l,N9 p.x/\N9 p.y)(e:Int):(l.map dN).foldl Gi e=e/\(l.map dN).map FP=l/\(l.map dN).all uV=true/\∀w∈l.map dN,aP w=true:=by
 induction l generalizing e with
 |nil=>exact⟨rfl,rfl,rfl,by simp⟩
 |cons p r ih=>
  obtain⟨a1,a2,a3,a4⟩:=LP p (h p (by simp)) e;obtain⟨b1,b2,b3,b4⟩:=ih (fun q hq=>h q (by simp[hq])) e;refine⟨?_,?_,?_,?_⟩
  ·rw[aba,abr,a1,b1]
  ·rw[aba,aba,a2,b2]
  ·rw[aba,List.all_cons,b3,a3];rfl
  intro w hw;rw[aba,abd] at hw;rcases hw with rfl|hw
  ·exact a4
  exact b4 w hw
end
section
open Go.RowKit Go.Shelf
attribute [local go_sem] Oper.semAt_some
attribute [-go_sem] Builtin.append_
theorem KL:(Tryd.prog.info? 61).map (fun i=>(i.zero,i.size,i.bytes))=some (some (.slice none 0 0),1,24):=by kernel_rfl
theorem I7 (w:World)(s:B):Calls Tryd.prog 34 #[.string ⟨s.toArray⟩,.string ⟨#[10]⟩] w fun e w'=>
  e= .returned (.func (.func 85) #[] #[.pointer (some ⟨w.heap.size+1,0,none⟩),.pointer (some ⟨w.heap.size,0,none⟩),.pointer (some ⟨w.heap.size+1+1,0,none⟩)])/\
   w'=((w.alloc (.cells #[.string ⟨s.toArray⟩] 9)).alloc (.cells #[.string ⟨#[10]⟩] 9)).alloc (.cells #[.int .i64 0] 3):=by
 go_enter Tryd.func34,Tryd.ntmps34
 go_wp2;go_ret
 exact⟨rfl,rfl⟩
def WI (w:World)(pre:List Ln)(W:World):Prop:=
 Bk W (w.heap.size+1) 3 #[.int .i64 pre.length]/\(∃z,Bk W (w.heap.size+1+1) 9 #[z])/\
  (∃A c hs,Bk W w.heap.size 44 #[.slice A hs.length c]/\W.ownsRow (w.heap.size+5) 61 1 (.slice A hs.length c) hs.length hs/\RowsIn 63 W hs (bg 1 (pre.map (·.1))))/\
  Below w.heap.size w W/\w.heap.size+5<=W.heap.size
theorem FV {A C:World}{row:Option Nat}(hg:A.grownBy C row)(hr:∀r,row=some r->∃o:Obj,A.heap[r]? =some o/\o.isCells=false){base e size n:Nat}{v:Value}{xs:List Value}(h:A.ownsRow base e size v n xs):C.ownsRow base e size v n xs:=by
 refine h.kept hg ?_;rcases h.2 with⟨rfl,_⟩|⟨g,cap,cur,rfl,_,hh,_⟩
 ·exact .inl rfl
 refine .inr (fun e=> ?_);obtain⟨o,ho,hc⟩:=hr g e.symm;rw[hh] at ho;cases ho;cases hc
theorem Oy (w:World)(B:Nat)(hB:w.heap.size<=B):OwnFrom B (WI w):=by
 intro s A C row hs hg hr;obtain⟨h1,⟨z,h2⟩,⟨A1,c1,hs1,h3,h4,h5⟩,h6,h7⟩:=hs;have hr':∀r,row=some r->∃o:Obj,A.heap[r]? =some o/\o.isCells=false:=fun r e=>(hr r e).2
 refine⟨(grownBy_keeps_cells hg hr' h1 rfl).trans h1,⟨z,(grownBy_keeps_cells hg hr' h2 rfl).trans h2⟩,⟨A1,c1,hs1,(grownBy_keeps_cells hg hr' h3 rfl).trans h3,FV hg hr' h4,h5.kept fun _ _ _ hrd=>hrd.other hg hr'⟩,?_,nt h7 hg.size⟩;exact h6.grown hg h6.size (fun k e=>nt hB (hr k e).1)
theorem qP {w:World}{t t':TypeId}{A:Option Addr}{n size g:Nat}{cs:List Value}{cur:Array Value}(h:Z4 w t A n size cs)(hb:Bk w g t' cur)(hne:t≠t')(i:Nat)(u:Value):Z4 (w.setCell ⟨g,i,none⟩ u) t A n size cs:=h.grown (aV (p:=⟨g,i,none⟩) (World.grownBy.refl _ _) (.inl rfl) _) (fun r e=>by cases e;exact⟨cur,t',hb,hne⟩)
theorem Ij (w:World)(pre:List Ln)(W:World)(v:Value)(h:WI w pre W):WI w pre (W.setCell ⟨w.heap.size+1+1,0,none⟩ v):=by obtain⟨h1,⟨z,h2⟩,⟨A1,c1,hs1,h3,h4,h5⟩,h6,h7⟩:=h;refine⟨h1.far (by simp) _,⟨v,h2.set 0 _⟩,⟨A1,c1,hs1,h3.far (by simp<;>omega) _,ownsRow_setCell_below h4 (by simp<;>omega) _,h5.kept fun _ _ _ hrd=>qP hrd h2 (by decide) 0 v⟩,h6.setCell (by simp;omega) _,by simpa using h7⟩
theorem AZ {h:Nat}{W W':World}(hk:∀b,h<=b->b<h+3->W'.heap[b]? =W.heap[b]?):ZV (DY h) W W':=by
 rintro b (rfl|rfl|rfl) o ho -
 ·rw[hk _ (by omega) (by omega)];exact ho
 ·rw[hk _ (by omega) (by omega)];exact ho
 rw[hk _ (by omega) (by omega)];exact ho
theorem KF (w W w2:World)(pre:List Ln)(x:Ln)(hI:WI w pre W)(hz:one x.1=[])(hb:Below (W.setCell ⟨w.heap.size+1,0,none⟩ (.int .i64 ((pre.length:Int)+1))).heap.size (W.setCell ⟨w.heap.size+1,0,none⟩ (.int .i64 ((pre.length:Int)+1))) w2):
  WI w (pre++[x]) w2/\ZV (DY (w.heap.size+1+1)) W w2/\KeepsOthers W w2:=by
 obtain⟨h1,⟨z,h2⟩,⟨A1,c1,hs1,h3,h4,h5⟩,h6,h7⟩:=hI;have hsz:(W.setCell ⟨w.heap.size+1,0,none⟩ (.int .i64 ((pre.length:Int)+1))).heap.size=W.heap.size:=by simp
 rw[hsz] at hb;have e1:=h1.set 0 (.int .i64 ((pre.length:Int)+1));have hblk:∀b,b<W.heap.size->w2.heap[b]? =_:=fun b hb'=>hb.block b hb'
 refine⟨⟨?_,⟨z,?_⟩,⟨A1,c1,hs1,?_,?_,?_⟩,?_,?_⟩,?_,?_⟩
 ·have:=(hblk _ h1.lt).trans e1;simpa [Bk] using this
 ·exact(hblk _ h2.lt).trans (h2.far (by simp) _)
 ·exact(hblk _ h3.lt).trans (h3.far (by simp) _)
 ·refine own_below (ownsRow_setCell_below h4 (a:=⟨w.heap.size+1,0,none⟩) (by simp) (.int .i64 ((pre.length:Int)+1))) ?_;rw[hsz];exact hb
 ·rw[abD,aba,abL,mZ,if_pos hz,abw];refine h5.kept fun _ _ _ hrd=>(qP hrd h1 (by decide) 0 (.int .i64 ((pre.length:Int)+1))).below ?_
  rw[hsz];exact hb
 ·exact(h6.setCell (by simp) _).trans (hb.mono (by omega))
 ·have:=hb.size;rw[hsz] at this;omega
 ·exact AZ fun b hb1 hb2=>(hblk b (by omega)).trans (Below.heap_setCell _ _ _ _ (by simp;omega))
 refine(KeepsOthers.setCell W _ _).trans ⟨hb.size,fun j o hj _=> ?_⟩;exact(hb.block j (by have:=(aa4.1 hj).1;rw[hsz] at this;exact this)).trans hj
theorem KG (w W w2:World)(pre:List Ln)(x:Ln)(A0 A2:Option Addr)(c0 c2:Nat)(hs0:List Value)(hl:pre.length<=800000000)(h1:Bk W (w.heap.size+1) 3 #[.int .i64 pre.length])(h2:∃z,Bk W (w.heap.size+1+1) 9 #[z])
  (h3:Bk W w.heap.size 44 #[.slice A0 hs0.length c0]) (h4:W.ownsRow (w.heap.size+5) 61 1 (.slice A0 hs0.length c0) hs0.length hs0) (h5:RowsIn 63 W hs0 (bg 1 (pre.map (·.1)))) (h6:Below w.heap.size w W) (h7:w.heap.size+5<=W.heap.size)
  (hz:one x.1≠[]) (hb:Below (W.setCell ⟨w.heap.size+1,0,none⟩ (.int .i64 ((pre.length:Int)+1))).heap.size (W.setCell ⟨w.heap.size+1,0,none⟩ (.int .i64 ((pre.length:Int)+1))) w2)
  (hown:w2.ownsRow (W.setCell ⟨w.heap.size+1,0,none⟩ (.int .i64 ((pre.length:Int)+1))).heap.size 63 3 (.slice A2 (one x.1).length c2) (one x.1).length (jQ (num (pre.length+1) (one x.1)))):
  ∃A3 c3 w3,(Builtin.append_ #[44,44] 44 #[.slice A0 hs0.length c0,.slice (some ⟨w2.heap.size,0,none⟩) 1 1]).run Tryd.prog (w2.alloc (.cells #[.slice A2 (one x.1).length c2] 61))= .ok (.slice A3 (hs0.length+1) c3) w3/\
   w2.cell? ⟨w.heap.size,0,none⟩=some (.slice A0 hs0.length c0)/\w3.cell? ⟨w.heap.size,0,none⟩=some (.slice A0 hs0.length c0)/\w3.frozen? ⟨w.heap.size,0,none⟩=false/\
   WI w (pre++[x]) (w3.setCell ⟨w.heap.size,0,none⟩ (.slice A3 (hs0.length+1) c3))/\ZV (DY (w.heap.size+1+1)) W (w3.setCell ⟨w.heap.size,0,none⟩ (.slice A3 (hs0.length+1) c3))/\KeepsOthers W (w3.setCell ⟨w.heap.size,0,none⟩ (.slice A3 (hs0.length+1) c3)):=by
 obtain⟨i0,hi0,hz0,hz1,hz2⟩:=info_parts KL;obtain⟨z,h2⟩:=h2;have hsz:(W.setCell ⟨w.heap.size+1,0,none⟩ (.int .i64 ((pre.length:Int)+1))).heap.size=W.heap.size:=by simp
 rw[hsz] at hb;rw[hsz] at hown;have V5:hs0.length<=800000000:=by have a1:=h5.1;have a2:=xB 1 (pre.map (·.1));rw[aa7] at a2;omega
 have hbs:W.heap.size<=w2.heap.size:=by have:=hb.size;rw[hsz] at this;exact this
 have hblk:∀b,b<W.heap.size->w2.heap[b]? =_:=fun b hb'=>hb.block b hb'
 have hbW:∀b,b<W.heap.size->b≠w.heap.size+1->w2.heap[b]? =W.heap[b]? :=fun b hb' hne=>(hblk b hb').trans (Below.heap_setCell _ _ _ _ (by simpa using hne))
 have q4:w2.ownsRow (w.heap.size+5) 61 1 (.slice A0 hs0.length c0) hs0.length hs0:=by refine own_below (ownsRow_setCell_below h4 (a:=⟨w.heap.size+1,0,none⟩) (by simp) (.int .i64 ((pre.length:Int)+1))) ?_;rw[hsz];exact hb
 have q5:RowsIn 63 w2 hs0 (bg 1 (pre.map (·.1))):=by
  refine h5.kept fun _ _ _ hrd=>(qP hrd h1 (by decide) 0 (.int .i64 ((pre.length:Int)+1))).below ?_
  rw[hsz];exact hb
 have q1:Bk w2 (w.heap.size+1) 3 #[.int .i64 ((pre.length:Int)+1)]:=(hblk _ h1.lt).trans (h1.set 0 _);have q2:Bk w2 (w.heap.size+1+1) 9 #[z]:=(hbW _ (by omega) (by omega)).trans h2;have q3:Bk w2 w.heap.size 44 #[.slice A0 hs0.length c0]:=(hbW _ (by omega) (by omega)).trans h3;have q6:Below w.heap.size w w2:=(h6.setCell (by simp) _).trans (hb.mono (by omega));obtain⟨v3,w3,hrun,hown3,hg,hat⟩:=iF (P:=Tryd.prog) (w2.alloc (.cells #[.slice A2 (one x.1).length c2] 61)) (w.heap.size+5) 44 44 61 i0 _ 1 24 Tryd.underlying44 hi0 hz0 hz1 hz2 rfl (by decide) (.slice A0 hs0.length c0) hs0.length _ (q4.alloc _) (w2.heap.size+1) (some ⟨w2.heap.size,0,none⟩) 1 1 [.slice A2 (one x.1).length c2] (Rd.new w2 #[.slice A2 (one x.1).length c2] 61 1 1 rfl) (by simp[Value.oneCell']) (by simp only[maxLen];omega) (by omega) (by simp;omega);obtain⟨A3,c3,rfl,-⟩:=Rd.ZX hown3;have hlow:∀k,k<w.heap.size+5->some k≠(Value.slice A0 hs0.length c0).ownBlock:=fun k hk e=>by have:=(q4.lt k e.symm).1;omega
 have nT:∀k,k<w.heap.size+5->w3.heap[k]? =w2.heap[k]? :=fun k hk=>(hg.block k (by simp;omega) (hlow k hk)).trans (Below.heap_alloc _ _ _ (by omega))
 have x3:Bk w3 w.heap.size 44 #[.slice A0 hs0.length c0]:=(nT _ (by omega)).trans q3;have s3:w2.heap.size+1<=w3.heap.size:=by have:=hg.size;simpa using this
 refine⟨A3,c3,w3,hrun,q3.cell 0,x3.cell 0,x3.frozen 0,⟨?_,⟨z,?_⟩,⟨A3,c3,hs0++[.slice A2 (one x.1).length c2],?_,?_,?_⟩,?_,?_⟩,?_,?_⟩
 ·have:=Bk.far (p:=⟨w.heap.size,0,none⟩) ((nT _ (by omega)).trans q1) (by simp) (.slice A3 (hs0.length+1) c3);simpa using this
 ·exact Bk.far ((nT _ (by omega)).trans q2) (by simp;omega) _
 ·have:=x3.set 0 (.slice A3 (hs0.length+1) c3);simpa using this
 ·have:=ownsRow_setCell_below hown3 (a:=⟨w.heap.size,0,none⟩) (by simp) (.slice A3 (hs0.length+1) c3);simpa using this
 ·rw[abD,aba,abL,mZ,if_neg hz,aa7];have hrd:Z4 w2 63 A2 (one x.1).length 3 (jQ (num (pre.length+1) (one x.1))):=qI hown;have a1:=((q5.snoc hrd (c:=c2) (AO hown)).alloc (.cells #[.slice A2 (one x.1).length c2] 61)).grown (q4.alloc _) hg (by decide);exact a1.kept fun _ _ _ hr=>qP hr x3 (by decide) 0 _
 ·exact((q6.alloc q6.size _).grown hg (by simp;omega) (fun g hg'=>by have:=(q4.lt g hg').1;omega)).setCell (by simp) _
 ·simp;omega
 ·exact AZ fun b hb1 hb2=>(Below.heap_setCell _ _ _ _ (by simp;omega)).trans ((nT b (by omega)).trans (hbW b (by omega) (by omega)))
 refine KeepsOthers.trans (KeepsOthers.trans (KeepsOthers.trans (KeepsOthers.trans (KeepsOthers.setCell W _ _) ⟨hb.size,fun j o hj _=> ?_⟩) (KeepsOthers.alloc w2 _)) (KeepsOthers.of_grownBy hg (fun j o hj ho=> ?_))) (KeepsOthers.setCell _ _ _)
 ·exact(hb.block j (by have:=(aa4.1 hj).1;rw[hsz] at this;exact this)).trans hj
 obtain⟨cur,hk⟩:=dh (q4.alloc (.cells #[.slice A2 (one x.1).length c2] 61)) j hj;have hk2:(w2.alloc (.cells #[.slice A2 (one x.1).length c2] 61)).heap[j]? =_:=hk;rw[hk2] at ho;cases ho;rfl
theorem GH (w:World)(s:B)(hs:s.length<=800000000):Calls Tryd.prog 16 #[.string ⟨s.toArray⟩] w fun e w'=>∃v,e= .returned v/\Lp 63 61 w w' (kJ s) v:=by
 refine(callsIn_wide (n:=20)).1 ?_;refine callsIn_of_wp_marks Tryd.func16 rfl trivial ?_ rfl;simp only[Tryd.ntmps16,List.size_toArray,lc,ln,Nat.reduceAdd,Nat.reduceSub,Array.replicate_succ,Array.replicate_zero,List.push_toArray,List.append_toArray,abC,abh]
 gi_wp2_with fail
 refine⟨trivial,?_⟩;refine(callsIn_wide.2 (I7 _ s)).mono ?_;rintro e w6 ⟨rfl,hw6⟩;have g0:Bk w6 w.heap.size 44 #[.slice none 0 0]:=by rw[hw6];exact((((Bk.new w 44 _).alloc _).alloc _).alloc _).alloc _
 have g1:Bk w6 (w.heap.size+1) 3 #[.int .i64 0]:=by rw[hw6];have:=(((Bk.new (w.alloc (.cells #[.slice none 0 0] 44)) 3 #[.int .i64 0]).alloc (.cells #[.string ⟨s.toArray⟩] 9)).alloc (.cells #[.string ⟨#[10]⟩] 9)).alloc (.cells #[.int .i64 0] 3);simp only[World.size_alloc] at this;exact this
 have g2:Bk w6 (w.heap.size+1+1) 9 #[.string ⟨s.toArray⟩]:=by rw[hw6];have:=((Bk.new ((w.alloc (.cells #[.slice none 0 0] 44)).alloc (.cells #[.int .i64 0] 3)) 9 #[.string ⟨s.toArray⟩]).alloc (.cells #[.string ⟨#[10]⟩] 9)).alloc (.cells #[.int .i64 0] 3);simp only[World.size_alloc] at this;exact this
 have g3:Bk w6 (w.heap.size+1+1+1) 9 #[.string ⟨#[10]⟩]:=by rw[hw6];have:=(Bk.new (((w.alloc (.cells #[.slice none 0 0] 44)).alloc (.cells #[.int .i64 0] 3)).alloc (.cells #[.string ⟨s.toArray⟩] 9)) 9 #[.string ⟨#[10]⟩]).alloc (.cells #[.int .i64 0] 3);simp only[World.size_alloc] at this;exact this
 have g4:Bk w6 (w.heap.size+1+1+1+1) 3 #[.int .i64 0]:=by rw[hw6];have:=Bk.new ((((w.alloc (.cells #[.slice none 0 0] 44)).alloc (.cells #[.int .i64 0] 3)).alloc (.cells #[.string ⟨s.toArray⟩] 9)).alloc (.cells #[.string ⟨#[10]⟩] 9)) 3 #[.int .i64 0];simp only[World.size_alloc] at this;exact this
 have hb6:Below w.heap.size w w6:=by rw[hw6];exact(((((aa0 _ w).alloc (ag _) _).alloc (by simp) _).alloc (by simp;omega) _).alloc (by simp;omega) _).alloc (by simp;omega) _
 have hs6:w6.heap.size=w.heap.size+5:=by rw[hw6];simp
 simp only[World.size_alloc];have Xo:=hd0 (Gp w6 (w.heap.size+1+1) s hs g2 g3 g4);have hI0:Hid (WI w [] w6):=⟨g1,⟨_,g2⟩,⟨none,0,[],g0,⟨rfl,.inl ⟨rfl,rfl⟩⟩,RowsIn.nil _ _⟩,hb6,by omega⟩
 clear hw6 g0 g1 g2 g3 g4 hb6
 gi_wp2_with fail
 refine tY (n:=20) (cs:=w.heap.size+1+1) (gf:=85) (lb:= #[.pointer (some ⟨w.heap.size+1+1+1,0,none⟩),.pointer (some ⟨w.heap.size+1+1,0,none⟩),.pointer (some ⟨w.heap.size+1+1+1+1,0,none⟩)]) (by omega) rfl (enters_of Tryd.func85 (by kernel_rfl) rfl) (fun _=>rfl) Xo.out (Bx:=fun _=>False) (fun _ _ h=>h)
  (fun h k=>h.trans k) (fun W l o o' h hc=>ZV.put W l o o' h hc) (fun xs W l o o' h _ _=>h) (WI w) (Oy w _ (by omega)) (Ij w) hI0.out
  (fun x=> {tmps:= #[.string ⟨s.toArray⟩,undef,.slice none 0 0,.pointer (some ⟨w.heap.size,0,none⟩),.pointer (some ⟨w.heap.size+1,0,none⟩),.string ⟨x.1.toArray⟩,undef,.string ⟨s.toArray⟩,.func (.func 85) #[] #[.pointer (some ⟨w.heap.size+1+1+1,0,none⟩),.pointer (some ⟨w.heap.size+1+1,0,none⟩),.pointer (some ⟨w.heap.size+1+1+1+1,0,none⟩)],.string ⟨x.1.toArray⟩,undef,undef,undef,undef,undef,undef,undef,undef,undef,undef,undef,undef,undef],defers:=[]}) ?assign ?body ?done
 case assign=>
  intro l x W K hK;simp only[xR]
  gi_wp2
  exact hK
 case body=>
  rintro l pre x W hI hlen;have HI:=hd0 hI;obtain⟨h1,h2,⟨A0,c0,hs0,h3,h4,h5⟩,h6,h7⟩:=hI;have k1:W.cell? ⟨w.heap.size+1,0,none⟩=some (.int .i64 pre.length):=h1.cell 0;have f1:=h1.frozen 0;have hsp:Calls Tryd.prog 35 #[.string ⟨x.1.toArray⟩,.int .i64 ((pre.length:Int)+1)] (W.setCell ⟨w.heap.size+1,0,none⟩ (.int .i64 ((pre.length:Int)+1))) (qE (W.setCell ⟨w.heap.size+1,0,none⟩ (.int .i64 ((pre.length:Int)+1))) x.1 (pre.length+1)):=by
   have e:((pre.length:Int)+1)=((pre.length+1:Nat):Int):=by omega
   rw[e];exact split_ok _ x.1 (pre.length+1) x.2
  have Xu:=hd0 hsp;clear hsp
  gi_wp2_with fail
  refine⟨trivial,rfl,?_⟩;refine(CallsIn.inRound l (callsIn_wide.2 Xu.out)).mono ?_;rintro e w2 ⟨v2,rfl,hown2,hb2⟩;obtain⟨A2,c2,rfl,-⟩:=Rd.ZX hown2;by_cases hz:one x.1=[]
  ·have Hp:=hd0 (KF w W w2 pre x HI.out hz hb2);have hz0:¬0<(one x.1).length:=by simp[hz]
   clear hz hown2 hb2
   gi_wp2_with fail
   exact Hp.out
  obtain⟨A3,c3,w3,hrun3,hq2,hq3,hf3,hpost⟩:=KG w W w2 pre x A0 A2 c0 c2 hs0 (by omega) h1 h2 h3 h4 h5 h6 h7 hz hb2 hown2;have Hp:=hd0 hpost;have hz0:0<(one x.1).length:=abN.2 hz;clear hz hown2 hb2 hpost
  gi_wp2_with fail
  exact Hp.out
 case done=>
  rintro D xs W hD hS hI hK;obtain⟨h1,h2,⟨A0,c0,hs0,h3,h4,h5⟩,h6,h7⟩:=hI;have k0:W.cell? ⟨w.heap.size,0,none⟩=some (.slice A0 hs0.length c0):=h3.cell 0;have HS:=hd0 hS;clear hS
  gi_wp2_with fail
  refine⟨by simp,.inl ⟨_,_,rfl,run_takeDeferred hK,?_⟩⟩;have hl:hs0.length=(kJ s).length:=by rw[h5.1,kJ,HS.out]
  refine⟨.slice A0 hs0.length c0,by simp[results,Tryd.results16,go_sem],_,rfl,A0,c0,hs0,by rw[hl],?_,?_,?_⟩
  ·rw[<-hl];exact qI (ownsRow_putObj h4 (.deferred none) hK rfl)
  ·rw[kJ,<-HS.out];exact h5.kept fun _ _ _ hr=>hr.other (grownBy_putObj' W D _) (fun q hq=>by cases hq;exact⟨_,hK,rfl⟩)
  exact h6.trans (belowK_b (w:=w) (ag _) W D _ _ (by omega) hK rfl rfl)
end
section
open Go.RowKit Go.Sort
def nG:Nat:=9+1
structure Tabs (w:World):Prop where
 ops:aar w 0 (strs opNames)
 anch:aar w 2 (strs anchorNames)
 kinds:aar w 3 (strs aK)
 pow:aar w 7 (Lib.pow10Tab.map fun z=>Value.int .u64 z)
theorem Tabs.below {w w':World}{Bd:Nat}(h:Tabs w)(hb:Below Bd w w')(hg:nG<=Bd):Tabs w':=by unfold nG at hg;exact⟨h.ops.below hb (by omega),h.anch.below hb (by omega),h.kinds.below hb (by omega),h.pow.below hb (by omega)⟩
theorem Tabs.all {w w':World}(h:Tabs w)(hb:Below w.heap.size w w'):Tabs w':=⟨h.ops.below hb h.ops.lt,h.anch.below hb h.anch.lt,h.kinds.below hb h.kinds.lt,h.pow.below hb h.pow.lt⟩
theorem Tabs.tab {w:World}(h:Tabs w):Lib.TabIs Tryd.prog w "internal/strconv.uint64pow10" .u64 Lib.pow10Tab:=by
 obtain⟨t,fz,h⟩:=h.pow
 have hg:Tryd.prog.globalNamed "internal/strconv.uint64pow10" =some 7:=by kernel_rfl
 simp[Lib.TabIs,World.var?,hg,h]
theorem CG (k:Nat):∀u,u<10 ^ (k+1)->Lib.nDigits u<=k+1:=by
 induction k with
 |zero=>intro u hu;rw[Lib.nDigits_small (by simpa using hu)];exact ag _
 |succ k ih=>
  intro u hu;by_cases h:u<10
  ·rw[Lib.nDigits_small h];omega
  rw[Lib.nDigits_big h];have:=ih (u / 10) (by rw[Nat.pow_succ] at hu;omega);omega
theorem jU {n:Int}(h:I64 n):(af n).length<=21:=by
 unfold I64 at h;have hb:∀u:Nat,u<=9223372036854775808->(Lib.decDigits u).length<=20:=fun u hu=>by
  rw[Lib.decDigits_length];exact CG 19 u (Nat.lt_of_le_of_lt hu (by decide))
 unfold af Lib.itoa;split
 ·have:=hb n.natAbs (by omega);simp;omega
 have:=hb n.toNat (by omega);omega
theorem below_grow (w:World)(k:Nat)(os:Array Obj):Below w.heap.size w (grow (w.drewN k) os):=
 ⟨rfl,rfl,rfl,by simp[grow],fun b hb=>by
  have:(grow (w.drewN k) os).heap=w.heap++os:=rfl;rw[this,Array.getElem?_append_left hb]⟩
theorem aA (w:World)(n:Int)(hT:Tabs w)(hn:I64 n):Calls Tryd.prog 21 #[.int .i64 n] w fun e w'=>e= .returned (.string ⟨(af n).toArray⟩)/\Below w.heap.size w w':=by
 have hc:=hd0 (Tryd.strconv_Itoa n hn.1 hn.2 w hT.tab);clear hn;go_enter Tryd.func21,Tryd.ntmps21
 go_wp2_with fail
 refine hc.out.mono ?_;rintro e w' ⟨rfl,k,os,rfl⟩;go_wp2;go_ret
 exact⟨rfl,below_grow w k os⟩
theorem vX (l:List B)(n:Int)(h:n<1):pick l n=[63]:=by rw[pick,if_pos h]
theorem vJ (l:List B)(n:Int)(h:(l.length:Int)<n):pick l n=[63]:=by
 rw[pick];split
 ·rfl
 rw[abp (by omega)];rfl
theorem uT (l:List B)(n:Int)(h1:1<=n)(h2:n<=l.length):∃s,l[(n - 1).toNat]? =some s/\pick l n=s:=by
 rw[pick,if_neg (by omega)];have h:(n - 1).toNat<l.length:=by omega
 exact⟨l[(n - 1).toNat],aa3 h,by rw[aa3 h];rfl⟩
theorem xI (w:World)(n:Int)(hT:Tabs w):Calls Tryd.prog 13 #[.int .i64 n] w fun e w'=>e= .returned (.string ⟨(fJ n).toArray⟩)/\w=w':=by
 by_cases h1:n<1
 ·have hp:=hd0 (vX opNames n h1);go_enter Tryd.func13,Tryd.ntmps13
  go_wp2;go_ret
  exact⟨by rw[fJ,hp.out];rfl,rfl⟩
 by_cases h2:39<n
 ·have hp:=hd0 (vJ opNames n (by show((39:Nat):Int)<n;omega));go_enter Tryd.func13,Tryd.ntmps13
  go_wp2;go_ret
  exact⟨by rw[fJ,hp.out];rfl,rfl⟩
 obtain⟨s,hs,hp0⟩:=uT opNames n (by omega) (by simp only[opNames,lc,ln];omega);have hp:=hd0 hp0;clear hp0;have hc:w.cell? ⟨0,n.toNat - 1,none⟩=some (.string ⟨s.toArray⟩):=by rw[show n.toNat - 1=(n - 1).toNat by omega,hT.ops.cell];exact strs_get hs
 clear hs;go_enter Tryd.func13,Tryd.ntmps13
 go_wp2;go_ret
 exact⟨by rw[fJ,hp.out];rfl,rfl⟩
theorem xx (w:World)(n:Int)(hT:Tabs w):Calls Tryd.prog 47 #[.int .i64 n] w fun e w'=>e= .returned (.string ⟨(pick anchorNames n).toArray⟩)/\w=w':=by
 by_cases h1:n<1
 ·have hp:=hd0 (vX anchorNames n h1);go_enter Tryd.func47,Tryd.ntmps47
  go_wp2;go_ret
  exact⟨by rw[hp.out];rfl,rfl⟩
 by_cases h2:4<n
 ·have hp:=hd0 (vJ anchorNames n (by show((4:Nat):Int)<n;omega));go_enter Tryd.func47,Tryd.ntmps47
  go_wp2;go_ret
  exact⟨by rw[hp.out];rfl,rfl⟩
 obtain⟨s,hs,hp0⟩:=uT anchorNames n (by omega) (by simp only[anchorNames,lc,ln];omega);have hp:=hd0 hp0;clear hp0;have hc:w.cell? ⟨2,n.toNat - 1,none⟩=some (.string ⟨s.toArray⟩):=by rw[show n.toNat - 1=(n - 1).toNat by omega,hT.anch.cell];exact strs_get hs
 clear hs;go_enter Tryd.func47,Tryd.ntmps47
 go_wp2;go_ret
 exact⟨by rw[hp.out];rfl,rfl⟩
theorem oP (w:World)(n:Int)(hT:Tabs w):Calls Tryd.prog 48 #[.int .i64 n] w fun e w'=>e= .returned (.string ⟨(pick aK n).toArray⟩)/\w=w':=by
 by_cases h1:n<1
 ·have hp:=hd0 (vX aK n h1);go_enter Tryd.func48,Tryd.ntmps48
  go_wp2;go_ret
  exact⟨by rw[hp.out];rfl,rfl⟩
 by_cases h2:8<n
 ·have hp:=hd0 (vJ aK n (by show((8:Nat):Int)<n;omega));go_enter Tryd.func48,Tryd.ntmps48
  go_wp2;go_ret
  exact⟨by rw[hp.out];rfl,rfl⟩
 obtain⟨s,hs,hp0⟩:=uT aK n (by omega) (by simp only[aK,lc,ln];omega);have hp:=hd0 hp0;clear hp0;have hc:w.cell? ⟨3,n.toNat - 1,none⟩=some (.string ⟨s.toArray⟩):=by rw[show n.toNat - 1=(n - 1).toNat by omega,hT.kinds.cell];exact strs_get hs
 clear hs;go_enter Tryd.func48,Tryd.ntmps48
 go_wp2;go_ret
 exact⟨by rw[hp.out];rfl,rfl⟩
theorem Dn (ws:List B)(k:Nat)(s:B)(h:ws[k]? =some s):bK (ws.take (k+1))=bK (ws.take k)++32::s:=by obtain⟨hk,hg⟩:=aa2.1 h;rw[abg hk,hg];simp[bK]
theorem zB (ws:List B)(k:Nat):(bK (ws.take k)).length<=(bK ws).length:=by
 conv=>rhs;rw[<-abx k ws]
 simp only[bK,aby,la];omega
theorem qK (w:World)(Bd g:Nat)(fc:Nat->Value)(txt first:B)(A:Option Addr)(c:Nat)(ws:List B)(h:Pr w Bd g fc txt)(hA:Sl aaw 1 w (FT w) A ws)(hlen:txt.length+(ai first ws).length<=1000000000000)(hws:ws.length<=1000000000000):
  Calls Tryd.prog 20 #[.pointer (some ⟨g,0,none⟩),.string ⟨first.toArray⟩,.slice A ws.length c] w fun e w'=>e= .returned (.tuple #[])/\Pr w' Bd g fc (txt++ai first ws)/\KP w w'/\Below Bd w w':=by
 have hl2:txt.length+first.length+(bK ws).length+1<=1000000000000:=by simp only[ai,la,lc,ln] at hlen;omega
 clear hlen;go_enter Tryd.func20,Tryd.ntmps20
 go_wp2_with (go_at_call 42;refine(mV _ Bd g fc txt first h (by omega)).mono ?_;rintro e w1 ⟨rfl,hp1,hk1,hb1⟩)
 go_loopw [15] (fun i wr=>∃k:Nat,k<=ws.length/\i= .int .i64 k/\Pr wr Bd g fc (txt++first++bK (ws.take k))/\KP w wr/\Below Bd w wr) (fun i _=>ws.length - (intOf i).toNat)
 case atStart=>exact⟨0,nz _,rfl,by simpa [bK] using hp1,hk1,hb1⟩
 case round=>
  obtain⟨k,hk,rfl,hp,hkp,hbl⟩:=hrel;have hm:=zB ws k;by_cases hlt:k<ws.length
  ·obtain⟨b,o,s,rfl,-,hs,q1⟩:=(hkp.sl aaw.ok hA).str hlt
   have hsn:=Dn ws k s hs.out;have hm2:=zB ws (k+1);rw[hsn] at hm2;simp only[la,lc] at hm2;have Hs:=hd0 hsn;clear hsn hs;go_wp2_with (first
    |(go_at_call 43;refine(qw _ Bd g fc _ 32 hp (by simp only[la];omega)).mono ?_;rintro e w2 ⟨rfl,hp2,hk2,hb2⟩)
    |(go_at_call 42;refine(mV _ Bd g fc _ s hp2 (by simp only[la,lc,ln];omega)).mono ?_;rintro e w3 ⟨rfl,hp3,hk3,hb3⟩))
   go_roundw
   case rel=>exact⟨k+1,by omega,by simp,by rw[Hs.out];simpa using hp3,(hkp.trans hk2).trans hk3,(hbl.trans hb2).trans hb3⟩
   case measure=>simp[intOf];omega
  obtain rfl:k=ws.length:=by omega
  go_wp2_with (go_at_call 43;refine(qw _ Bd g fc _ 10 hp (by simp only[la];omega)).mono ?_;rintro e w2 ⟨rfl,hp2,hk2,hb2⟩)
  go_end0
  refine⟨rfl,?_,hkp.trans hk2,hbl.trans hb2⟩;simpa [ai] using hp2
end
section
open Go.RowKit
abbrev gm:TypeId:=118
abbrev ax:TypeId:=3
def mkV (A:Option Addr)(n c a:Nat)(fs:Nat->Value)(lp:Int):Array Value:= #[.slice A n c,.int .i64 a,fs 0,fs 1,fs 2,fs 3,fs 4,fs 5,fs 6,fs 7,fs 8,.int .i64 lp]
def Mk (w:World)(m:Nat)(fs:Nat->Value)(lp:Int):Prop:=∃A n c a zs,Bk w m gm (mkV A n c a fs lp)/\a<=n/\n<=1000000000/\Rd w m A n 1 (aI zs)/\∀z∈zs,I64 z
abbrev Mv (m:Nat)(w w':World):Prop:=w.grownBy w' (some m)
theorem Df {a b:World}{m Bd:Nat}(h:a.grownBy b (some m))(hm:Bd<=m)(hB:Bd<=a.heap.size):Below Bd a b:=⟨h.os,h.tape,h.output,h.size,fun i hi=>h.block i (by omega) (fun e=>by injection e with e;omega)⟩
theorem Mk.lt {w:World}{m:Nat}{fs:Nat->Value}{lp:Int}(h:Mk w m fs lp):m<w.heap.size:=by obtain⟨A,n,c,a,zs,h1,-⟩:=h;exact h1.lt
theorem Mk.cells {w:World}{m:Nat}{fs:Nat->Value}{lp:Int}(h:Mk w m fs lp):(∀i,i<9->w.cell? ⟨m,i+2,none⟩=some (fs i))/\w.cell? ⟨m,11,none⟩=some (.int .i64 lp):=by
 obtain⟨A,n,c,a,zs,h1,-⟩:=h;refine⟨fun i hi=> ?_,h1.cell 11⟩;rw[h1.cell (i+2)];have:i=0\/i=1\/i=2\/i=3\/i=4\/i=5\/i=6\/i=7\/i=8:=by omega
 rcases this with rfl|rfl|rfl|rfl|rfl|rfl|rfl|rfl|rfl<;>rfl
theorem Mk.frozen {w:World}{m:Nat}{fs:Nat->Value}{lp:Int}(h:Mk w m fs lp)(i:Nat):w.frozen? ⟨m,i,none⟩=false:=by obtain⟨A,n,c,a,zs,h1,-⟩:=h;exact h1.frozen i
theorem Mk.grown {w w':World}{m:Nat}{fs:Nat->Value}{lp:Int}(h:Mk w m fs lp){row:Option Nat}(hg:w.grownBy w' row)(hr:∀g,row=some g->m<g):Mk w' m fs lp:=by have hm:=h.lt;obtain⟨A,n,c,a,zs,h1,h2,h3,h4,h5⟩:=h;exact⟨A,n,c,a,zs,(hg.block m hm (fun e=>by have:=hr m e.symm;omega)).trans h1,h2,h3,h4.grown hg (by omega) (fun g e=>by have:=hr g e;omega),h5⟩
theorem Mk.below {w w':World}{m:Nat}{fs:Nat->Value}{lp:Int}(h:Mk w m fs lp)(hb:Below w.heap.size w w'):Mk w' m fs lp:=h.grown (row:=none) (bQ hb none) (fun g e=>by cases e)
theorem Mk.set {w:World}{m:Nat}{fs fs':Nat->Value}{lp lp':Int}(h:Mk w m fs lp)(j:Nat)(u:Value)(hj:∀A n c a,(mkV A n c a fs lp).setIfInBounds j u=mkV A n c a fs' lp'):Mk (w.setCell ⟨m,j,none⟩ u) m fs' lp':=by obtain⟨A,n,c,a,zs,h1,h2,h3,h4,h5⟩:=h;exact⟨A,n,c,a,zs,by have:=h1.set j u;rwa [hj] at this,h2,h3,h4.setCell (by simp) u,h5⟩
theorem FW {w w':World}{base:Nat}{e:TypeId}{size:Nat}{v:Value}{n:Nat}{xs:List Value}(h:w.ownsRow base e size v n xs){m:Nat}(hg:w.grownBy w' (some m))(hm:m<base):w'.ownsRow base e size v n xs:=
 h.kept (row:=some m) hg (by
  cases hb:v.ownBlock with
  |none=>exact .inl rfl
  |some g=>exact .inr (fun e=>by injection e with e;have:=(h.lt g hb).1;omega))
theorem kX (w:World)(base:Nat)(e:TypeId)(size n:Nat)(cur:Array Value)(hb:base<=w.heap.size)(hn:cur.size=n*size)(hm:n<=1000000):(w.alloc (.cells cur e)).ownsRow base e size (.slice (some ⟨w.heap.size,0,none⟩) n n) n cur.toList:=⟨by simpa using hn,.inr ⟨w.heap.size,n,cur,rfl,hb,heap_alloc_new w _,ag _,by unfold maxLen;omega,hn,by rw[List.take_of_length_le];simpa using Nat.le_of_eq hn⟩⟩
def NI (base:Nat)(w:World):Bs:=fun b=>base<=b/\∃cs,Bk w b ax cs
def Nw (base:Nat)(w:World):Bs:=fun b=>base<=b/\∃cs t,Bk w b t cs/\uA t=true
theorem NI.base {base base':Nat}{w:World}(hb:base'<=base):∀b,NI base w b->NI base' w b:=fun b ⟨h,k⟩=>⟨by omega,k⟩
theorem Nw.base {base base':Nat}{w:World}(hb:base'<=base):∀b,Nw base w b->Nw base' w b:=fun b ⟨h,k⟩=>⟨by omega,k⟩
theorem NI.row {base:Nat}{w w':World}{v:Value}{bs:Nat}{e:TypeId}{size n:Nat}{xs:List Value}(ho:w.ownsRow bs e size v n xs)(he:e≠ax)(hg:w.grownBy w' v.ownBlock):Same (NI base w) w w'/\∀b,NI base w b->NI base w' b:=by
 have key:∀b,NI base w b->w'.heap[b]? =w.heap[b]? :=fun b ⟨h,cs,k⟩=>hg.block b k.lt (fun e'=>by
  obtain⟨cur,hb⟩:=dh ho b e'.symm;exact he (iT hb k).1)
 exact⟨key,fun b hb=>by obtain⟨h,cs,k⟩:=hb;exact⟨h,cs,(key b ⟨h,cs,k⟩).trans k⟩⟩
theorem Sl.moved {α:Type}{R:ZL α}(ok:R.Ok){size:Nat}{w w':World}{S S':Bs}{A:Option Addr}{xs:List α}(h:Sl R size w S A xs)(k:Same S w w'/\∀b,S b->S' b):Sl R size w' S' A xs:=(h.keep ok k.1).mono ok k.2
theorem Fl.moved {α:Type}{R:ZL α}(ok:R.Ok){size:Nat}{w w':World}{S S':Bs}{cs:List Value}{xs:List α}(h:Fl R size w S cs xs)(k:Same S w w'/\∀b,S b->S' b):Fl R size w' S' cs xs:=(h.keep ok k.1).mono ok k.2
theorem Sl.rdM {α:Type}{R:ZL α}{size:Nat}{w:World}{S:Bs}{A:Option Addr}{xs:List α}(h:Sl R size w S A xs)(hS:∀b,S b->b<w.heap.size):∃cells,Fl R size w S cells xs/\Rd w w.heap.size A xs.length size cells:=by obtain⟨cells,h1,h2⟩:=h;refine⟨cells,h1,h1.1,fun h0=> ?_⟩;obtain⟨b,o,e,hb,hc⟩:=h2 h0;exact⟨b,o,e,hS b hb,hc⟩
theorem NI.lt {base:Nat}{w:World}:∀b,NI base w b->b<w.heap.size:=fun b ⟨_,_,k⟩=>k.lt
theorem Nw.lt {base:Nat}{w:World}:∀b,Nw base w b->b<w.heap.size:=fun b ⟨_,_,_,k,_⟩=>k.lt
theorem dU (w:World)(S:Bs)(l:List Int)(h:∀n∈l,I64 n):Fl Zx 1 w S (aI l) l:=
 ⟨by simp[aI],fun k x hx=>⟨[.int .i64 x],⟨rfl,h x (aa8 hx)⟩,rfl,fun j u hu=>by
  cases j with
  |zero=>simp at hu;subst hu;simp[aI,cI,hx]
  |succ j=>simp at hu⟩⟩
theorem jX {α:Type}{R:ZL α}{size:Nat}(w:World)(S:Bs)(f:α->List Value)(l:List α)(hs:∀x∈l,(f x).length=size)(hR:∀x∈l,R w S (f x) x):Fl R size w S (l.flatMap f) l:=by
 induction l with
 |nil=>exact Fl.nil
 |cons a r ih=>rw[abj];exact(Fl.one (hR a (by simp)) (hs a (by simp))).append (ih (fun x hx=>hs x (by simp[hx])) (fun x hx=>hR x (by simp[hx])))
def DV (i:Ins):List Value:=[.int .i64 i.op,.int .i64 i.a]
def eQ (p:List Ins):List Value:=p.flatMap DV
theorem uS (w:World)(S:Bs)(p:List Ins)(h:∀i∈p,I64 i.op/\I64 i.a):Fl ZQ 2 w S (eQ p) p:=jX w S DV p (fun _ _=>rfl) (fun x hx=>⟨rfl,h x hx⟩)
theorem Gh (a b:List Ins):eQ (a++b)=eQ a++eQ b:=by simp[eQ]
theorem FM (p:List Ins):∀u∈eQ p,u.oneCell'=true:=by intro u hu;simp only[eQ,abE,DV,abd,abA,or_false] at hu;obtain⟨p,_,rfl|rfl⟩:=hu<;>rfl
theorem Gg (p:List Ins):(eQ p).length=p.length*2:=by
 induction p with
 |nil=>rfl
 |cons a r ih=>simp only[eQ,abj,la,lc,DV,ln] at ih ⊢;omega
def MF (p:Pt):List Value:=[.int .i64 p.x,.int .i64 p.y,.bool p.on]
def pV (p:List Pt):List Value:=p.flatMap MF
theorem PT (w:World)(S:Bs)(p:List Pt)(h:∀i∈p,I64 i.x/\I64 i.y):Fl PtR 3 w S (pV p) p:=jX w S MF p (fun _ _=>rfl) (fun x hx=>⟨rfl,h x hx⟩)
theorem IV (a b:List Pt):pV (a++b)=pV a++pV b:=by simp[pV]
end
end Go.Proofs.YtkijckccfookeaaDoor
