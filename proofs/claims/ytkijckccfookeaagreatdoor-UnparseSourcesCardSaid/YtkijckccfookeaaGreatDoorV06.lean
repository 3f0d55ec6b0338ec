/- Lemmas. -/
import Derived.Test.YtkijckccfookeaaGreatDoorV05
import Derived.Lib.MakeNoZero
set_option linter.unusedVariables false
set_option linter.unusedSimpArgs false
set_option maxRecDepth 100000
set_option maxHeartbeats 32000000
namespace Go.Proofs.YtkijckccfookeaaGreatDoor
open Go.RowKit
section
def N9 (n:Int):Prop:= -999999999<=n/\n<=999999999
def xg (p:List Ins):Prop:=∀i∈p,1<=i.op/\i.op<=39/\N9 i.a
def In (n:Nat)(x:Int):Prop:=0<=x/\x<n
def kX:Nat->List Int->Nat->Prop
 |fr,[],len=>fr=len
 |fr,e::es,len=>(fr:Int)<=e/\e<len/\kX (e.toNat+1) es len
structure OkG (n:Nat)(g:ahR):Prop where
 name:nameB g.name=true
 adv:N9 g.advance
 pts:∀p∈g.points,N9 p.x/\N9 p.y
 ends:kX 0 g.ends g.points.length
 parts:∀p∈g.parts,In n p.ahU/\N9 p.x/\N9 p.y
 anch:∀a∈g.anchors,1<=a.kind/\a.kind<=4/\N9 a.cls/\N9 a.x/\N9 a.y
 aid:∀d∈g.deltas,N9 d.region/\N9 d.point/\N9 d.x/\N9 d.y
 hint:xg g.hint
def OkS (n:Nat)(s:List Int):Prop:=s.Pairwise (· < ·)/\∀x∈s,In n x
structure OkR (n:Nat)(kind:Int)(r:aii):Prop where
 back:∀s∈r.back,OkS n s
 in':∀s∈r.in',OkS n s
 ahead:∀s∈r.ahead,OkS n s
 out:∀x∈r.out,In n x
 calls:∀c∈r.calls,N9 c.at'/\N9 c.lookup
 x:N9 r.x
 one:kind=1\/kind=5->∃s,r.in'=[s]/\r.out.length=s.length
 outs:kind=4\/6<=kind->r.out=[]
 noC:kind≠4->r.calls=[]
 noX:kind≠6->r.x=0
structure aiV (f:Fnt):Prop where
 unit:N9 f.unit
 ahQ:∀a∈f.ahQ,nameB a.name=true/\N9 a.min'/\N9 a.aiv/\N9 a.max'
 regs:∀r∈f.regions,∀t∈r.ah4,N9 t.start/\N9 t.peak/\N9 t.stop
 cvt:∀n∈f.cvt,N9 n
 funcs:∀p∈f.funcs,xg p
 apart:(f.ahO.map (·.name)).Nodup
 ahO:∀g∈f.ahO,OkG f.ahO.length g
 chars:∀c∈f.chars,N9 c.rune/\In f.ahO.length c.ahU
 ahP:∀l∈f.ahP,1<=l.kind/\l.kind<=8/\∀r∈l.rules,OkR f.ahO.length l.kind r
 ahZ:∀x∈f.features,nameB x.name=true/\∀n∈x.ahP,N9 n
 few:f.ahO.length<=1000
def LK (c:UInt8):Bool:=gp c||c==45
theorem uj (u:Nat):∀c∈Lib.decDigits u,gp c=true:=by
 induction u using Nat.strongRecOn with
 |_ u ih=>
  rw[Lib.decDigits];split
  ·intro c hc;simp only[akm] at hc;subst hc;rw[lN,UInt8.toNat_ofNat'];omega
  intro c hc;rw[akq,akm] at hc;rcases hc with hc|rfl
  ·exact ih (u / 10) (by omega) c hc
  rw[lN,UInt8.toNat_ofNat'];omega
theorem OZ (u:Nat):mF (Lib.decDigits u)=u:=by
 induction u using Nat.strongRecOn with
 |_ u ih=>
  rw[Lib.decDigits];split
  ·have e:[UInt8.ofNat (48+u)]=[]++[UInt8.ofNat (48+u)]:=rfl;rw[e,vO,UInt8.toNat_ofNat'];have:mF []=0:=rfl;omega
  rw[vO,ih (u / 10) (by omega),UInt8.toNat_ofNat'];omega
theorem Ph (k:Nat):∀u,u<10 ^ (k+1)->Lib.nDigits u<=k+1:=by
 induction k with
 |zero=>intro u hu;rw[Lib.nDigits_small (by simpa using hu)];exact nr _
 |succ k ih=>
  intro u hu;by_cases h:u<10
  ·rw[Lib.nDigits_small h];omega
  rw[Lib.nDigits_big h];have:=ih (u / 10) (by rw[Nat.pow_succ] at hu;omega);omega
theorem BK (u:Nat)(h:u<=999999999):1<=(Lib.decDigits u).length/\(Lib.decDigits u).length<=9:=by rw[Lib.decDigits_length];exact⟨Lib.nDigits_pos u,Ph 8 u (by show u<1000000000;omega)⟩
theorem OE (u:Nat)(h:u<=999999999):rM (Lib.decDigits u)=true:=La _ (uj u) (BK u h).1 (BK u h).2
theorem KF (u:Nat):∃c r,Lib.decDigits u=c::r/\c≠45:=by
 cases h:Lib.decDigits u with
 |nil=>have:=Lib.decDigits_length u;have:=Lib.nDigits_pos u;rw[h] at*;simp at*;omega
 |cons c r=>
  refine⟨c,r,rfl,fun e=> ?_⟩;have:=uj u c (by rw[h];simp);rw[e] at this
  revert this
  decide
theorem eu (n:Int)(h:N9 n):uf (ag n)=true/\aA (ag n)=n:=by
 unfold N9 at h;unfold ag Lib.itoa;split
 ·have e:gu (45::Lib.decDigits n.natAbs)=Lib.decDigits n.natAbs:=rfl;have e2:signed (45::Lib.decDigits n.natAbs)=true:=rfl;have e3:=OE n.natAbs (by omega);refine⟨by rw[uf,e,e3],?_⟩;rw[aA,e,e2,if_pos e3,if_pos rfl,OZ];omega
 obtain⟨c,r,h1,h2⟩:=KF n.toNat;have e:gu (Lib.decDigits n.toNat)=Lib.decDigits n.toNat/\signed (Lib.decDigits n.toNat)=false:=by
  rcases uB (Lib.decDigits n.toNat) with⟨r',h,_⟩|⟨h3,h4,_⟩
  ·rw[h1] at h;injection h with h _
   exact absurd h h2
  exact⟨h3,h4⟩
 have e3:=OE n.toNat (by omega);refine⟨by rw[uf,e.1,e3],?_⟩;rw[aA,e.1,e.2,if_pos e3,OZ];simp;omega
theorem pO (n:Int):∀c∈ag n,LK c=true:=by
 intro c hc;unfold ag Lib.itoa at hc;split at hc
 ·rw[akx] at hc;rcases hc with rfl|hc
  ·decide
  simp[LK,uj _ c hc]
 simp[LK,uj _ c hc]
theorem ac6 (n:Int):ag n≠[]:=by
 unfold ag Lib.itoa;split
 ·simp
 obtain⟨c,r,h1,h2⟩:=KF n.toNat;rw[h1];simp
theorem iL {c:UInt8}(h:LK c=true):yz c=true/\c≠58/\c≠44/\c≠42/\c≠64/\c≠47/\c≠62/\c≠91/\c≠93:=by
 simp only[LK,Bool.or_eq_true,lN,beq_iff_eq] at h;refine⟨?_,?_,?_,?_,?_,?_,?_,?_,?_⟩
 ·simp only[yz,akK,bne_iff_ne,ne_eq];refine⟨⟨⟨?_,?_⟩,?_⟩,?_⟩<;>(rintro rfl;revert h;decide)
 all_goals (rintro rfl;revert h;decide)
theorem qF (n:Int):bM (ag n)=true:=by simp only[bM,akK,Bool.not_eq_true',List.isEmpty_eq_false_iff,akW];exact⟨ac6 n,fun c hc=>(iL (pO n c hc)).1⟩
theorem gU (n:Int)(h:N9 n)(e:Int):aG e (ag n)=e:=by rw[aG,if_neg (by rw[(eu n h).1];simp)]
theorem uQ (l:List Int)(h:∀n∈l,N9 n)(e:Int):fB e (l.map ag)=e:=by
 induction l generalizing e with
 |nil=>rfl
 |cons n r ih=>have:fB e ((n::r).map ag)=fB (aG e (ag n)) (r.map ag):=rfl;rw[this,gU n (h n (by simp)),ih (fun m hm=>h m (by simp[hm]))]
theorem D8 (l:List Int)(h:∀n∈l,N9 n):(l.map ag).map aA=l:=by
 rw[ak6]
 conv=>rhs;rw[<-List.map_id l]
 exact List.map_congr_left (fun n hn=>(eu n (h n hn)).2)
theorem UY {s:B}(h:nameB s=true):∀c∈s,yz c=true/\c≠58/\c≠44/\c≠42/\c≠64/\c≠47/\c≠62/\c≠91/\c≠93:=by
 intro c hc;obtain⟨k,hk⟩:=akG.1 hc;have ha:nameAt k c=true:=by rw[<-Bool.not_eq_false];intro hf;rw[DX s k c hk hf] at h;cases h
 rw[nZ] at ha;refine⟨?_,?_,?_,?_,?_,?_,?_,?_,?_⟩
 ·simp only[yz,akK,bne_iff_ne,ne_eq];refine⟨⟨⟨?_,?_⟩,?_⟩,?_⟩<;>(rintro rfl;simp at ha)
 all_goals (rintro rfl;simp at ha)
theorem ZY {s:B}(h:nameB s=true):s≠[]:=by
 rintro rfl
 revert h
 decide
theorem pK {s:B}(h:nameB s=true):bM s=true:=by simp only[bM,akK,Bool.not_eq_true',List.isEmpty_eq_false_iff,akW];exact⟨ZY h,fun c hc=>(UY h c hc).1⟩
theorem Eb {s:B}(h:nameB s=true)(e:Int):bg e s=e:=by rw[bg,if_neg (by rw[h];simp)]
theorem JC {c:UInt8}{a b:B}(h:∀d∈a,d≠c):cO c (a++c::b)=a/\dI c (a++c::b)=b:=by
 induction a with
 |nil=>simp[cO,dI]
 |cons d r ih=>
  obtain⟨i1,i2⟩:=ih (fun x hx=>h x (by simp[hx]));have hd:(d !=c)=true:=by simpa using h d (by simp)
  constructor
  ·show List.takeWhile (· !=c) (d::(r++c::b))=_;rw[List.takeWhile_cons_of_pos (p:=fun x=>x !=c) hd];exact congrArg _ i1
  show(List.dropWhile (· !=c) (d::(r++c::b))).drop 1=_;rw[List.dropWhile_cons_of_pos (p:=fun x=>x !=c) hd];exact i2
theorem Vj {c:UInt8}{a:B}(h:∀d∈a,d≠c):cO c a=a/\dI c a=[]:=by
 induction a with
 |nil=>simp[cO,dI]
 |cons d r ih=>
  obtain⟨i1,i2⟩:=ih (fun x hx=>h x (by simp[hx]));have hd:(d !=c)=true:=by simpa using h d (by simp)
  constructor
  ·show List.takeWhile (· !=c) (d::r)=_;rw[List.takeWhile_cons_of_pos (p:=fun x=>x !=c) hd];exact congrArg _ i1
  show(List.dropWhile (· !=c) (d::r)).drop 1=_;rw[List.dropWhile_cons_of_pos (p:=fun x=>x !=c) hd];exact i2
theorem count_none {c:UInt8}{a:B}(h:∀d∈a,d≠c):a.count c=0:=List.count_eq_zero.2 (fun hm=>h c hm rfl)
theorem yU {c:UInt8}{a:B}(h:∀d∈a,d≠c):a.contains c=false:=by rw[<-Bool.not_eq_true,List.contains_iff_mem];exact fun hm=>h c hm rfl
theorem Wv:∀k:Fin 39,∃s,opNames[k.val]? =some s/\qP s=(k.val:Int)+1/\bM s=true/\(∀c∈s,c≠58/\c≠44/\c≠42/\c≠47/\c≠62):=by decide+kernel
theorem UJ (n:Int)(h1:1<=n)(h2:n<=39):qP (kL n)=n/\bM (kL n)=true/\∀c∈kL n,c≠58/\c≠44/\c≠42/\c≠47/\c≠62:=by
 obtain⟨s,e1,e2,e3,e4⟩:=Wv ⟨(n - 1).toNat,by omega⟩;have:kL n=s:=by unfold kL pick;rw[if_neg (by omega)];simp only at e1;rw[e1];rfl
 rw[this];simp only at e2;exact⟨by omega,e3,e4⟩
theorem XE (i:Ins)(h:1<=i.op/\i.op<=39/\N9 i.a)(e:Int):qR e (dw i)=e/\jH (dw i)=i/\(dw i).count 58<=1/\bM (dw i)=true:=by
 obtain⟨h1,h2,h3⟩:=h;obtain⟨f1,f2,f3⟩:=UJ i.op h1 h2;have hc:∀d∈kL i.op,d≠58:=fun d hd=>(f3 d hd).1
 by_cases h0:i.a=0
 ·have e1:dw i=kL i.op:=by simp[dw,h0]
  obtain⟨c1,c2⟩:=Vj hc;rw[e1,qR,jH,yU hc,c1,f1,count_none hc];refine⟨?_,?_,by omega,f2⟩
  ·simp;omega
  cases i
  simp_all
 have e1:dw i=kL i.op++58::ag i.a:=by simp[dw,h0]
 obtain⟨c1,c2⟩:=JC (b:=ag i.a) hc;have hm:(kL i.op++58::ag i.a).contains 58=true:=by simp
 have hn:∀d∈ag i.a,d≠58:=fun d hd=>(iL (pO _ d hd)).2.1
 rw[e1,qR,jH,if_pos hm,if_pos hm,c1,c2,f1,(eu i.a h3).2];refine⟨?_,?_,?_,?_⟩
 ·rw[if_neg (by omega),gU _ h3]
 ·cases i;rfl
 ·rw[List.count_append,List.count_cons,count_none hc,count_none hn];simp
 simp only[bM,akK,Bool.not_eq_true',List.isEmpty_eq_false_iff,akW,akq,akx];refine⟨by simp,fun c hc=> ?_⟩;rcases hc with hc|rfl|hc
 ·exact xx f2 c hc
 ·decide
 exact(iL (pO _ c hc)).1
theorem zx (p:List Ins)(h:xg p)(e:Int):(p.map dw).foldl qR e=e/\(p.map dw).map jH=p/\uZ (p.map dw)=true/\∀w∈p.map dw,bM w=true:=by
 induction p generalizing e with
 |nil=>exact⟨rfl,rfl,rfl,by simp⟩
 |cons i r ih=>
  obtain⟨a1,a2,a3,a4⟩:=XE i (h i (by simp)) e;obtain⟨b1,b2,b3,b4⟩:=ih (fun j hj=>h j (by simp[hj])) e;refine⟨?_,?_,?_,?_⟩
  ·rw[akv,akN,a1,b1]
  ·rw[akv,akv,a2,b2]
  ·unfold uZ at b3 ⊢;rw[akv,List.all_cons,b3];simpa using a3
  intro w hw;rw[akv,akx] at hw;rcases hw with rfl|hw
  ·exact a4
  exact b4 w hw
theorem Zc (p:Pt)(h:N9 p.x/\N9 p.y)(e:Int):vw e (jb p)=e/\pX (jb p)=p/\lu (jb p)=true/\bM (jb p)=true:=by
 obtain⟨h1,h2⟩:=h;have n1:∀d∈ag p.x,d≠44:=fun d hd=>(iL (pO _ d hd)).2.2.1
 have n2:∀d∈ag p.y,d≠44:=fun d hd=>(iL (pO _ d hd)).2.2.1
 have s1:∀d∈ag p.x,d≠42:=fun d hd=>(iL (pO _ d hd)).2.2.2.1
 have s2:∀d∈ag p.y,d≠42:=fun d hd=>(iL (pO _ d hd)).2.2.2.1
 have hs:∀d∈ag p.x++44::ag p.y,d≠42:=by
  intro d hd;rw[akq,akx] at hd;rcases hd with hd|rfl|hd
  ·exact s1 d hd
  ·decide
  exact s2 d hd
 obtain⟨c1,c2⟩:=JC (b:=ag p.y) n1;have hcnt:(ag p.x++44::ag p.y).count 44=1:=by rw[List.count_append,List.count_cons,count_none n1,count_none n2];simp
 have htok:∀c∈ag p.x++44::ag p.y,yz c=true:=by
  intro d hd;rw[akq,akx] at hd;rcases hd with hd|rfl|hd
  ·exact(iL (pO _ d hd)).1
  ·decide
  exact(iL (pO _ d hd)).1
 cases hon:p.on with
 |true=>
  have e1:jb p=ag p.x++44::ag p.y:=by simp[jb,hon]
  have hl:(ag p.x++44::ag p.y).getLast? ≠some 42:=fun h=>hs 42 (List.mem_of_getLast? h) rfl
  have hu:dU (ag p.x++44::ag p.y)=ag p.x++44::ag p.y:=by rw[dU,if_neg hl]
  rw[e1,vw,pX,lu,hu,c1,c2,hcnt,yU hs,gU _ h1,gU _ h2,(eu _ h1).2,(eu _ h2).2];refine⟨rfl,?_,rfl,?_⟩
  ·cases p
   simp_all
  simp only[bM,akK,Bool.not_eq_true',List.isEmpty_eq_false_iff,akW];exact⟨by simp,htok⟩
 |false=>
  have e1:jb p=(ag p.x++44::ag p.y)++[42]:=by simp[jb,hon]
  have hl:((ag p.x++44::ag p.y)++[42]).getLast? =some 42:=List.getLast?_concat;have hu:dU ((ag p.x++44::ag p.y)++[42])=ag p.x++44::ag p.y:=by rw[dU,if_pos hl,List.dropLast_concat]
  have hcnt2:((ag p.x++44::ag p.y)++[42]).count 44=1:=by rw[List.count_append,hcnt];rfl
  have hidx:((ag p.x++44::ag p.y)++[42]).idxOf 42=(ag p.x++44::ag p.y).length:=by rw[List.idxOf_append,if_neg (fun hm=>hs 42 hm rfl)];simp
  rw[e1,vw,pX,lu,hu,c1,c2,hcnt2,hidx,hl,gU _ h1,gU _ h2,(eu _ h1).2,(eu _ h2).2];refine⟨rfl,?_,?_,?_⟩
  ·cases p
   simp_all
  ·simp
  simp only[bM,akK,Bool.not_eq_true',List.isEmpty_eq_false_iff,akW,akq (s:=ag p.x++44::ag p.y),akm];refine⟨by simp,fun c hc=> ?_⟩;rcases hc with hc|rfl
  ·exact htok c hc
  decide
theorem Lt (l:List Pt)(h:∀p∈l,N9 p.x/\N9 p.y)(e:Int):(l.map jb).foldl vw e=e/\(l.map jb).map pX=l/\(l.map jb).all lu=true/\∀w∈l.map jb,bM w=true:=by
 induction l generalizing e with
 |nil=>exact⟨rfl,rfl,rfl,by simp⟩
 |cons p r ih=>
  obtain⟨a1,a2,a3,a4⟩:=Zc p (h p (by simp)) e;obtain⟨b1,b2,b3,b4⟩:=ih (fun q hq=>h q (by simp[hq])) e;refine⟨?_,?_,?_,?_⟩
  ·rw[akv,akN,a1,b1]
  ·rw[akv,akv,a2,b2]
  ·rw[akv,List.all_cons,b3,a3];rfl
  intro w hw;rw[akv,akx] at hw;rcases hw with rfl|hw
  ·exact a4
  exact b4 w hw
def ElT (e t:TypeId)(size:Nat):Prop:=∃i z,Tryz.prog.underlying t=some (.slice e)/\Tryz.prog.info? e=some i/\i.zero=some z/\i.size=size/\z.cells.size=size/\i.bytes<=1000/\0<size
theorem ElT.mk {e t:TypeId}{size:Nat}(ht:Tryz.prog.underlying t=some (.slice e))(h:(Tryz.prog.info? e).map (fun i=>(i.zero.map (fun z=>z.cells.size),i.size,decide (i.bytes<=1000)))=some (some size,size,true))(hs:0<size):ElT e t size:=by obtain⟨i,hi,he⟩:=Option.map_eq_some_iff.1 h;simp only[alb,ali] at he;obtain⟨z,hz,hc⟩:=Option.map_eq_some_iff.1 he.1;exact⟨i,z,ht,hi,hz,he.2.1,hc,he.2.2,hs⟩
theorem qK:ElT 3 22 1:= .mk Tryz.underlying22 (by kernel_rfl) (by decide)
theorem Yd:ElT 22 73 1:= .mk Tryz.underlying73 (by kernel_rfl) (by decide)
theorem Fb:ElT 61 57 2:= .mk Tryz.underlying57 (by kernel_rfl) (by decide)
theorem abM:ElT 57 30 1:= .mk Tryz.underlying30 (by kernel_rfl) (by decide)
theorem acA:ElT 139 51 3:= .mk Tryz.underlying51 (by kernel_rfl) (by decide)
theorem abL:ElT 87 54 3:= .mk Tryz.underlying54 (by kernel_rfl) (by decide)
theorem ab4:ElT 89 55 4:= .mk Tryz.underlying55 (by kernel_rfl) (by decide)
theorem ZK:ElT 91 56 4:= .mk Tryz.underlying56 (by kernel_rfl) (by decide)
theorem Oo:ElT 59 24 9:= .mk Tryz.underlying24 (by kernel_rfl) (by decide)
theorem aas:ElT 93 25 2:= .mk Tryz.underlying25 (by kernel_rfl) (by decide)
theorem aao:ElT 95 74 2:= .mk Tryz.underlying74 (by kernel_rfl) (by decide)
theorem UK:ElT 76 70 6:= .mk Tryz.underlying70 (by kernel_rfl) (by decide)
theorem Ul:ElT 72 26 3:= .mk Tryz.underlying26 (by kernel_rfl) (by decide)
theorem aal:ElT 97 27 2:= .mk Tryz.underlying27 (by kernel_rfl) (by decide)
theorem acB:ElT 99 28 4:= .mk Tryz.underlying28 (by kernel_rfl) (by decide)
theorem V6:ElT 104 29 1:= .mk Tryz.underlying29 (by kernel_rfl) (by decide)
theorem aag:ElT 101 102 3:= .mk Tryz.underlying102 (by kernel_rfl) (by decide)
theorem acg:ElT 124 119 3:= .mk Tryz.underlying119 (by kernel_rfl) (by decide)
abbrev Loc (w:World)(v v':Value):Prop:=v'.ownBlock=v.ownBlock\/∀g,v'.ownBlock=some g->w.heap.size<=g
theorem BO {e t size:Nat}(E:ElT e t size)(ty:TypeId)(w1:World)(base n c:Nat)(A:Option Addr)(xs:List Value)(hown:w1.ownsRow base e size (.slice A n c) n xs)
  (Bd:Nat) (A2:Option Addr) (m c2:Nat) (news:List Value) (hr:Rd w1 Bd A2 m size news) (h1:∀u∈news,u.oneCell'=true) (hn:n+m<=100000000000) (hb:base<=w1.heap.size):
  ∃A' c' w',(Builtin.append_ #[t,t] ty #[.slice A n c,.slice A2 m c2]).run Tryz.prog w1= .ok (.slice A' (n+m) c') w'/\w'.ownsRow base e size (.slice A' (n+m) c') (n+m) (xs++news)/\w1.grownBy w' (Value.slice A n c).ownBlock/\Loc w1 (.slice A n c) (.slice A' (n+m) c'):=by
 obtain⟨i,z,ht,hi,hz,hs,hzs,hby,hsz⟩:=E;have hbytes:(n+m)*i.bytes<=140737488355328:=nt (Nat.mul_le_mul hn hby) (by decide);obtain⟨v',w',hrun,ho,hg,hl⟩:=oC (P:=Tryz.prog) w1 base t ty e i z size i.bytes ht hi hz hs rfl hzs hsz (.slice A n c) n xs hown Bd A2 m c2 news hr h1 (by simp only[maxLen];omega) hbytes hb;obtain⟨A',c',rfl⟩:=gX ho;refine⟨A',c',w',hrun,ho,hg,?_⟩;rcases hl with hl|hl
 ·exact .inl hl
 exact .inr (fun g e=>by rw[hl] at e;injection e with e;omega)
section
variable {e t size:Nat} {ops:Array Oper} {rest:List Oper} {o:Oper} {a:Act} {Q:Exit->Act->World->Prop}
theorem Jt (E:ElT e t size)(hgd:o.guard=none)(s x:Operand)(ho:o.op= .call {callee:= .builtin .append,args:= #[s,x],argTypes:= #[t,t]})
  (w1:World) (base n c:Nat) (A:Option Addr) (xs:List Value) (Bd:Nat) (A2:Option Addr) (m c2:Nat) (news:List Value) (hs:a.eval s= .slice A n c) (hx:a.eval x= .slice A2 m c2)
  (hown:w1.ownsRow base e size (.slice A n c) n xs) (hr:Rd w1 Bd A2 m size news) (h1:∀u∈news,u.oneCell'=true) (hn:n+m<=100000000000) (hb:base<=w1.heap.size)
  (h:∀A' c' w',w'.ownsRow base e size (.slice A' (n+m) c') (n+m) (xs++news)->w1.grownBy w' (Value.slice A n c).ownBlock->Loc w1 (.slice A n c) (.slice A' (n+m) c')->wpList Tryz.prog ops Q rest (a.put o.dst (.slice A' (n+m) c')) w'):
  wpList Tryz.prog ops Q (o::rest) a w1:=by
 obtain⟨A',c',w',hrun,h2,h3,h4⟩:=BO E o.type w1 base n c A xs hown Bd A2 m c2 news hr h1 hn hb;refine wpList_plain hgd fun K hK=> ?_
 unfold Oper.wp execOp;simp only[ho,resolve,invoke,builtin,Sem.run_bind,Sem.run_pure,Result.andThen_ok,List.map_toArray,akv,ak9,hs,hx,hrun];exact hK _ _ (h A' c' w' h2 h3 h4)
theorem lq (E:ElT e t size)(hgd:o.guard=none)(s x:Operand)(ho:o.op= .call {callee:= .builtin .append,args:= #[s,x],argTypes:= #[t,t]})
  (w1:World) (hsz:Nat) (hh:w1.heap.size=hsz) (base n c:Nat) (A:Option Addr) (xs:List Value) (news:Array Value) (hnl:news.size=size) (hs:a.eval s= .slice A n c) (hx:a.eval x= .slice (some ⟨hsz,0,none⟩) 1 1)
  (hown:w1.ownsRow base e size (.slice A n c) n xs) (h1:∀u∈news.toList,u.oneCell'=true) (hn:n<=10000000000) (hb:base<=w1.heap.size)
  (h:∀A' c' w',w'.ownsRow base e size (.slice A' (n+1) c') (n+1) (xs++news.toList)->w1.grownBy w' (Value.slice A n c).ownBlock->Loc w1 (.slice A n c) (.slice A' (n+1) c')->wpList Tryz.prog ops Q rest (a.put o.dst (.slice A' (n+1) c')) w'):
  wpList Tryz.prog ops Q (o::rest) a (w1.alloc (.cells news e)):=by
 subst hh;refine Jt E hgd s x ho _ base n c A xs (w1.heap.size+1) (some ⟨w1.heap.size,0,none⟩) 1 1 news.toList hs hx (hown.alloc _) (Rd.newAt _ _ rfl news e 1 size (by omega)) h1 (by omega) (by simp;omega) ?_;intro A' c' w' h2 h3 h4;refine h A' c' w' h2 ⟨h3.os,h3.tape,h3.output,nt (by simp) h3.size,fun i hi hne=> ?_⟩ (h4.imp id fun h5 g hg=>by have:=h5 g hg;simp at this;omega);exact(h3.block i (by simp;omega) hne).trans (Below.heap_alloc _ _ _ hi)
end
end
section
def PrC (w:World)(g:Nat)(fc:Nat->Value)(ad v:Value):Prop:=Bk w g 130 #[fc 0,fc 1,fc 2,fc 3,fc 4,fc 5,fc 6,fc 7,fc 8,ad,v]
def Pr (w:World)(Bd g:Nat)(fc:Nat->Value)(txt:B):Prop:=∃ad v,Bd<=g/\PrC w g fc ad v/\(ad= .pointer none\/ad= .pointer (some ⟨g,9,none⟩))/\w.ownsRow Bd 5 1 v txt.length (Lib.byteCells txt)
def PrU (w:World)(Bd g:Nat)(fc:Nat->Value)(txt:B):Prop:=∃v,Bd<=g/\PrC w g fc (.pointer (some ⟨g,9,none⟩)) v/\w.ownsRow Bd 5 1 v txt.length (Lib.byteCells txt)
theorem PrU.pr {w:World}{Bd g:Nat}{fc:Nat->Value}{txt:B}(h:PrU w Bd g fc txt):Pr w Bd g fc txt:=by obtain⟨v,h1,h2,h3⟩:=h;exact⟨_,v,h1,h2,.inr rfl,h3⟩
theorem Pr.lt {w:World}{Bd g:Nat}{fc:Nat->Value}{txt:B}(h:Pr w Bd g fc txt):Bd<=g/\g<w.heap.size:=by obtain⟨ad,v,h1,h2,-⟩:=h;exact⟨h1,Bk.lt h2⟩
theorem ads {w:World}{g g':Nat}{t t':TypeId}{cs cs':Array Value}(h:Bk w g t cs)(h':Bk w g' t' cs')(hne:t≠t'):g≠g':=by
 rintro rfl;have a1:w.heap[g]? =_:=h;have a2:w.heap[g]? =_:=h';rw[a1] at a2;injection a2 with a3
 injection a3 with _ a4
 exact hne a4
theorem GG {w:World}{base:Nat}{e t:TypeId}{s:Nat}{v:Value}{n:Nat}{xs:List Value}(h:w.ownsRow base e s v n xs){g:Nat}{cs:Array Value}(hb:Bk w g t cs)(hne:e≠t):v.ownBlock≠some g:=by intro e';obtain⟨cur,hk⟩:=oO h g e';exact ads hk hb hne rfl
theorem xZ {w:World}{base:Nat}{e t:TypeId}{s:Nat}{v:Value}{n:Nat}{xs:List Value}(h:w.ownsRow base e s v n xs){g:Nat}{cs:Array Value}(hb:Bk w g t cs)(hne:e≠t)(i:Nat)(u:Value):(w.setCell ⟨g,i,none⟩ u).ownsRow base e s v n xs:=h.kept (row:=some g) (dL (p:=⟨g,i,none⟩) (World.grownBy.refl _ _) (.inl rfl) _) (.inr (GG h hb hne))
theorem KP.store {w:World}{g:Nat}{cs:Array Value}(h:Bk w g 130 cs)(i:Nat)(u:Value):KP w (w.setCell ⟨g,i,none⟩ u):=
 ⟨fun b o hb hn=>by
  refine(Below.heap_setCell w ⟨g,i,none⟩ u b ?_).trans hb;rintro rfl;have h1:w.heap[b]? =_:=h;rw[h1] at hb;injection hb with hb
  subst hb;exact hn.2 rfl,by simp⟩
theorem KP.grown {w w':World}{base n:Nat}{v:Value}{xs:List Value}(ho:w.ownsRow base 5 1 v n xs)(hg:w.grownBy w' v.ownBlock):KP w w':=
 ⟨fun b o hb hn=>by
  refine(hg.block b (akp.1 hb).1 ?_).trans hb;intro e;obtain⟨cur,hk⟩:=oO ho b e.symm;have h1:w.heap[b]? =_:=hk;rw[h1] at hb;injection hb with hb
  subst hb;exact hn.1 rfl,hg.size⟩
theorem infoByte:(Tryz.prog.info? 5).map (fun i=>(i.zero,i.size,i.bytes))=some (some (.int .u8 0),1,1):=by kernel_rfl
theorem sizeBuilder:(Tryz.prog.info? 128).map (fun i=>i.size)=some 2:=by kernel_rfl
theorem liesBuilder:liesAt Tryz.prog Tryz.prog.depth 130 (11 / Tryz.prog.cellsOf 130) 9 128 1=true:=by kernel_rfl
theorem PrC.shape {w:World}{g:Nat}{fc:Nat->Value}{ad v:Value}(h:PrC w g fc ad v):w.shape? g=some (130,11):=by unfold PrC Bk at h;simp[World.shape?,h]
theorem PI (g:Nat)(w:World)(h0:w.cell? ⟨g,9,none⟩=some (.pointer (some ⟨g,9,none⟩))):
  Calls Tryz.prog 140 #[.pointer (some ⟨g,9,none⟩)] w fun e w'=>e= .returned (.tuple #[])/\w=w':=by
 obtain⟨j,hj,_⟩:=Option.map_eq_some_iff.1 sizeBuilder;go_enter Tryz.func140,Tryz.ntmps140
 go_wp2;rw[Lib.run_neq_ptr_same w _ Tryz.underlying126 hj];go_wp2
 go_end0
 exact⟨rfl,rfl⟩
theorem NS (g:Nat)(w:World)(fc:Nat->Value)(v:Value)(h:PrC w g fc (.pointer none) v):
  Calls Tryz.prog 140 #[.pointer (some ⟨g,9,none⟩)] w fun e w'=>e= .returned (.tuple #[])/\w'=w.setCell ⟨g,9,none⟩ (.pointer (some ⟨g,9,none⟩)):=by
 obtain⟨j,hj,hjs⟩:=Option.map_eq_some_iff.1 sizeBuilder;have h0:w.cell? ⟨g,9,none⟩=some (.pointer none):=h.cell 9;have hfz:w.frozen? ⟨g,9,none⟩=false:=h.frozen 9;have hsh:=h.shape;go_enter Tryz.func140,Tryz.ntmps140
 go_wp2;rw[Lib.run_to_unsafe w ⟨g,9,none⟩ Tryz.underlying126 Tryz.underlying246 hj (by rw[hjs];decide) hsh (show 9<11 by decide)];simp only[Result.andThen];rw[Oper.upon_value];go_wp2;rw[run_callFunc_extern Tryz.func175 (by kernel_rfl) (by kernel_rfl) (by kernel_rfl) (e:=Extern.AbiNoEscape.same) (by kernel_rfl)];rw[Lib.run_noEscape];simp only[Result.andThen];rw[Oper.upon_value];go_wp2;rw[Lib.run_from_unsafe w ⟨g,9,none⟩ Tryz.underlying246 Tryz.underlying126 hj hsh liesBuilder];simp only[Result.andThen];rw[Oper.upon_value];go_wp2
 go_end0
 exact⟨rfl,rfl⟩
theorem LY (w:World)(Bd g:Nat)(fc:Nat->Value)(txt:B)(h:Pr w Bd g fc txt):
  Calls Tryz.prog 140 #[.pointer (some ⟨g,9,none⟩)] w fun e w'=>e= .returned (.tuple #[])/\PrU w' Bd g fc txt/\KP w w'/\Below Bd w w':=by
 obtain⟨ad,v,h1,h2,h3|h3,h4⟩:=h
 ·subst h3;refine(NS g w fc v h2).mono ?_;rintro e w' ⟨rfl,rfl⟩;refine⟨rfl,⟨v,h1,?_,xZ h4 h2 (by decide) _ _⟩,KP.store h2 _ _,(akl _ _).setCell (p:=⟨g,9,none⟩) h1 _⟩;have:=Bk.set h2 9 (.pointer (some ⟨g,9,none⟩));exact this
 subst h3;refine(PI g w (Bk.cell h2 9)).mono ?_;rintro e w' ⟨rfl,rfl⟩;exact⟨rfl,⟨v,h1,h2,h4⟩,KP.refl _,akl _ _⟩
theorem yM (a b:B):Lib.byteCells (a++b)=Lib.byteCells a++Lib.byteCells b:=by simp[Lib.byteCells]
theorem Ag (w:World)(Bd g:Nat)(fc:Nat->Value)(txt:B)(c:UInt8)(h:Pr w Bd g fc txt)(hlen:txt.length<=1000000000000):
  Calls Tryz.prog 92 #[.pointer (some ⟨g,9,none⟩),.int .u8 c.toNat] w fun e w'=>e= .returned .nilIface/\Pr w' Bd g fc (txt++[c])/\KP w w'/\Below Bd w w':=by
 obtain⟨i0,hi,hz0,hz1,hz2⟩:=info_parts infoByte;have hlt:=h.lt;go_enter Tryz.func92,Tryz.ntmps92
 go_wp2_with (go_at_call 140;refine(LY _ Bd g fc txt h).mono ?_)
 rintro e w1 ⟨rfl,⟨v,hB,hbk,hown⟩,hk1,hb1⟩;have hs1:=hb1.size;have c1:w1.cell? ⟨g,10,none⟩=some v:=Bk.cell hbk 10;go_wp2_with (at_builtin;refine wpList_append_own _ rfl _ _ 68 rfl Bd 5 i0 (.int .u8 0) 1 1 Tryz.underlying68 hi hz0 hz1 hz2 rfl (by decide) _ _ _ rfl (hown.alloc _) ⟨w1.heap.size,0,none⟩ 1 1 [.int .u8 c.toNat] rfl rfl ?c1 ?c2 ?c3 ?c4 ?c5 ?_)
 case c1=>
  intro j u hj
  match j,hj with
  |0,hj=>simp at hj;subst hj;simp[Addr.add]
 case c2=>intro u hu;simp at hu;subst hu;rfl
 case c3=>unfold maxLen;omega
 case c4=>omega
 case c5=>simp;omega
 intro v' w2 hown' hgrow _;have hlt1:=Bk.lt hbk;have adJ:=Bk.alloc hbk (.cells #[.int .u8 c.toNat] 5);have hbk2:PrC w2 g fc (.pointer (some ⟨g,9,none⟩)) v:=(hgrow.block g (by simp;omega) (fun e=>GG hown hbk (by decide) e.symm)).trans adJ;have d1:w2.cell? ⟨g,10,none⟩=some v:=Bk.cell hbk2 10;have f1:w2.frozen? ⟨g,10,none⟩=false:=Bk.frozen hbk2 10;have HB:=hd0 hbk2;obtain⟨g',cap,rfl⟩:∃g' cap,v'= .slice (some ⟨g',0,none⟩) (txt.length+1) cap:=by
  rcases hown'.2 with⟨_,h0⟩|⟨g',cap,cur,hv,_⟩
  ·omega
  exact⟨g',cap,hv⟩
 go_wp2;go_ret
 refine⟨rfl,⟨_,_,hB,Bk.set HB.out 10 _,.inr rfl,?_⟩,?_,?_⟩
 ·refine xZ ?_ HB.out (by decide) _ _;rw[yM,la];simpa [Lib.byteCells] using hown'
 ·exact((hk1.trans (KP.alloc _ _)).trans (KP.grown (hown.alloc _) hgrow)).trans (KP.store HB.out _ _)
 exact((hb1.alloc (by omega) _).grown hgrow (by simp;omega) (fun k hk=>(hown.lt k hk).1)).setCell (p:=⟨g,10,none⟩) hB _
theorem wU (w:World)(Bd g:Nat)(fc:Nat->Value)(txt s:B)(h:Pr w Bd g fc txt)(hlen:txt.length+s.length<=1000000000000):
  Calls Tryz.prog 91 #[.pointer (some ⟨g,9,none⟩),.string ⟨s.toArray⟩] w fun e w'=>e= .returned (.tuple #[.int .i64 s.length,.nilIface])/\Pr w' Bd g fc (txt++s)/\KP w w'/\Below Bd w w':=by
 obtain⟨i0,hi,hz0,hz1,hz2⟩:=info_parts infoByte;have hlt:=h.lt;go_enter Tryz.func91,Tryz.ntmps91
 go_wp2_with (go_at_call 140;refine(LY _ Bd g fc txt h).mono ?_)
 rintro e w1 ⟨rfl,⟨v,hB,hbk,hown⟩,hk1,hb1⟩;have hs1:=hb1.size;have c1:w1.cell? ⟨g,10,none⟩=some v:=Bk.cell hbk 10;go_wp2_with (at_builtin;refine Lib.wpList_append_own_string _ rfl _ _ 68 9 rfl Bd 5 i0 Tryz.underlying68 Tryz.underlying9 hi hz0 hz1 hz2 _ _ _ rfl hown ⟨s.toArray⟩ rfl ?c3 ?c4 ?c5 ?_)
 case c3=>
  have e:(⟨s.toArray⟩:ByteArray).size=s.length:=by rfl
  rw[e];unfold maxLen;omega
 case c4=>
  have e:(⟨s.toArray⟩:ByteArray).size=s.length:=by rfl
  rw[e];omega
 case c5=>omega
 intro v' w2 hown' hgrow _;have hlt1:=Bk.lt hbk;have hbk2:PrC w2 g fc (.pointer (some ⟨g,9,none⟩)) v:=(hgrow.block g hlt1 (fun e=>GG hown hbk (by decide) e.symm)).trans hbk;have d1:w2.cell? ⟨g,10,none⟩=some v:=Bk.cell hbk2 10;have f1:w2.frozen? ⟨g,10,none⟩=false:=Bk.frozen hbk2 10;have HB:=hd0 hbk2;obtain⟨ao,n',cap,rfl⟩:∃ao n' cap,v'= .slice ao n' cap:=by
  rcases hown'.2 with⟨hv,_⟩|⟨g',cap,cur,hv,_⟩
  ·exact⟨_,_,_,hv⟩
  exact⟨_,_,_,hv⟩
 go_wp2
 go_ret2
 refine⟨rfl,⟨_,_,hB,Bk.set HB.out 10 _,.inr rfl,?_⟩,?_,?_⟩
 ·refine xZ ?_ HB.out (by decide) _ _;rw[yM,la];have e:Lib.strCells ⟨s.toArray⟩=Lib.byteCells s:=by simp[Lib.strCells,Lib.byteCells]
  rw[e] at hown';simpa using hown'
 ·exact(hk1.trans (KP.grown hown hgrow)).trans (KP.store HB.out _ _)
 exact(hb1.grown hgrow (by omega) (fun k hk=>(hown.lt k hk).1)).setCell (p:=⟨g,10,none⟩) hB _
theorem QY (w:World)(Bd g:Nat)(fc:Nat->Value)(l:B)(h:Pr w Bd g fc l)(h0:l≠[]):
  Calls Tryz.prog 49 #[.pointer (some ⟨g,9,none⟩)] w fun e w'=>e= .returned (.string ⟨l.toArray⟩)/\Below Bd w w':=by
 obtain⟨ad,v,hB,hbk,-,hown⟩:=h;have hl0:l.length≠0:=by simpa using h0
 obtain⟨q,cap,cur,rfl,hbg,hg,hnc,hcm,hcs,htake⟩:∃q cap cur,v= .slice (some ⟨q,0,none⟩) l.length cap/\Bd<=q/\w.heap[q]? =some (.cells cur 5 (0,0))/\l.length<=cap/\cap<=maxLen/\cur.size=cap*1/\cur.toList.take (l.length*1)=Lib.byteCells l:=by
  rcases hown.2 with⟨_,hz⟩|⟨q,cap,cur,hv,r⟩
  ·exact absurd hz hl0
  exact⟨q,cap,cur,hv,r⟩
 have c1:w.drew.cell? ⟨g,10,none⟩=some (.slice (some ⟨q,0,none⟩) l.length cap):=Bk.cell hbk 10;have hSD:(Builtin.unsafeSliceData_ #[68] 173 #[.slice (some ⟨q,0,none⟩) l.length cap]).run Tryz.prog w.drew= .ok (.pointer (some ⟨q,0,none⟩)) w.drew:=Lib.run_unsafeSliceData_row _ _ _ _ _ _ (by omega);have hUS:(Builtin.unsafeString_ #[173,3] 9 #[.pointer (some ⟨q,0,none⟩),.int .i64 l.length]).run Tryz.prog w.drew= .ok (.string ⟨l.toArray⟩) (w.drew.freeze ⟨q,0,none⟩ l.length):=by refine Lib.run_unsafeString_row w.drew 173 3 9 5 Tryz.underlying173 (by kernel_rfl) q cur.size (by have hg':w.drew.heap[q]? =some (.cells cur 5 (0,0)):=hg;simp[World.shape?,hg']) l h0 (by omega) (by unfold maxLen at hcm;omega) ?_;intro j x hx;have:=hown.cells (g:=q) rfl j (.int .u8 x.toNat) (by simp[Lib.byteCells,hx]);exact this
 go_enter Tryz.func49,Tryz.ntmps49
 go_wp2;go_region
 all_goals (go_wp2;go_ret;exact⟨rfl,Lib.below_freeze (Below.drew (akl Bd w)) (p:=⟨q,0,none⟩) hbg _⟩)
def abH (σ :B×List B):List B:= σ.2++if σ.1=[] then [] else [σ.1]
def ac0 (σ :B×List B)(c:UInt8):B×List B:=if blank c then([],abH σ) else(σ.1++[c],σ.2)
def aeN (l:B):B×List B:=l.foldl ac0 ([],[])
def texts (l:B):List B:=abH (aeN (code l))
def tl:Nat->List B->List (Int×List B)
 |_,[]=>[]
 |n,p::ps=>(if texts p=[] then [] else [((n:Int),texts p)])++tl (n+1) ps
def ahead (one:B)(k:Nat)(r:B):B:=match k with|0=>r|k+1=>one++10::ahead one k r
theorem Sm (a:B):(gW a).length=a.count 10+1:=by
 induction a with
 |nil=>rfl
 |cons c r ih=>
  by_cases hc:c=10
  ·subst hc;rw[gW,if_pos rfl,aF,ih,List.count_cons_self]
  rw[gW,if_neg hc,List.count_cons_of_ne hc];cases hp:gW r with
  |nil=>exact absurd hp (KH r)
  |cons p ps=>rw[<-ih,hp];rfl
end
end Go.Proofs.YtkijckccfookeaaGreatDoor
