/- Lemmas. -/
import Derived.Test.YtkijckccfookeaaGreatDoorV13
set_option linter.unusedVariables false
set_option linter.unusedSimpArgs false
set_option maxRecDepth 100000
set_option maxHeartbeats 32000000
namespace Go.Proofs.YtkijckccfookeaaGreatDoor
open Go.RowKit
section
theorem ed {α β:Type}(l:List α)(f:α->List β)(k n:Nat)(h:∀x∈l,(f x).length<=k)(hl:l.length<=n):(l.flatMap f).length<=n*k:=by
 have:(l.flatMap f).length<=l.length*k:=by
  clear hl;induction l with
  |nil=>simp
  |cons a r ih=>rw[aqD,az,ay,ard];have:=h a (by simp);have:=ih (fun x hx=>h x (by simp[hx]));omega
 exact nt this (Nat.mul_le_mul_right k hl)
theorem uI (n:Int)(h:N9 n):(aN n).length<=10:=by
 unfold N9 at h;unfold aN Lib.itoa;split
 ·have:=(DJ n.natAbs (by omega)).2;rw[ay];omega
 have:=(DJ n.toNat (by omega)).2;omega
theorem ul {s:B}(h:nameB s=true):s.length<=16:=by rw[nameB,aqK,decide_eq_true_iff] at h;exact h.1.2
def W32 (l:List B):Prop:=∀w∈l,w.length<=32
theorem W32.nil:W32 []:=fun w h=>by simp at h
theorem W32.cons {w:B}{l:List B}(h:w.length<=32)(k:W32 l):W32 (w::l):=fun x hx=>by
 rw[aqx] at hx;rcases hx with rfl|hx
 ·exact h
 exact k x hx
theorem W32.app {a b:List B}(h:W32 a)(k:W32 b):W32 (a++b):=fun x hx=>by
 rw[aqp] at hx;rcases hx with hx|hx
 ·exact h x hx
 exact k x hx
theorem W32.map {α:Type}{l:List α}{f:α->B}(h:∀x∈l,(f x).length<=32):W32 (l.map f):=fun w hw=>by
 rw[aqQ] at hw;obtain⟨x,hx,rfl⟩:=hw;exact h x hx
theorem W32.flat {α:Type}{l:List α}{f:α->List B}(h:∀x∈l,W32 (f x)):W32 (l.flatMap f):=fun w hw=>by
 rw[aqZ] at hw;obtain⟨x,hx,hw⟩:=hw;exact h x hx w hw
theorem W32.it {l:List Int}(h:∀n∈l,N9 n):W32 (l.map aN):=W32.map fun n hn=>nt (uI n (h n hn)) (by decide)
theorem ace (l:List B)(h:W32 l):(bM l).length<=33*l.length:=by have:(bM l).length<=l.length*33:=ed l _ 33 l.length (fun w hw=>by rw[ay];have:=h w hw;omega) (ag _);omega
def Lk (L:List (List B))(k:Nat):Prop:=(L.flatMap gY).length<=k
theorem Lk.line {l:List B}{n:Nat}(h:W32 l)(hl:l.length<=n):Lk [l] (33*n+1):=by
 unfold Lk;cases l with
 |nil=>simp[gY]
 |cons w r=>simp only[aqD,aq4,aqR,gY,qi,az,ay,ln];have h1:=h w (by simp);have h2:=ace r (fun x hx=>h x (by simp[hx]));rw[ay] at hl;omega
theorem Lk.mono {L:List (List B)}{k n:Nat}(h:Lk L k)(hk:k<=n):Lk L n:=nt h hk
theorem Lk.nil (k:Nat):Lk [] k:=nz _
theorem Lk.app {a b:List (List B)}{k n:Nat}(h:Lk a k)(g:Lk b n):Lk (a++b) (k+n):=by
 unfold Lk at*
 rw[aqT,az];omega
theorem Lk.cons {l:List B}{b:List (List B)}{k n:Nat}(h:Lk [l] k)(g:Lk b n):Lk (l::b) (k+n):=h.app g
theorem Lk.map {α:Type}{l:List α}{f:α->List B}{k n:Nat}(h:∀x∈l,Lk [f x] k)(hl:l.length<=n):Lk (l.map f) (n*k):=by
 unfold Lk at*
 rw[abg];exact ed l _ k n (fun x hx=>by have:=h x hx;simpa using this) hl
theorem Lk.flat {α:Type}{l:List α}{f:α->List (List B)}{k n:Nat}(h:∀x∈l,Lk (f x) k)(hl:l.length<=n):Lk (l.flatMap f) (n*k):=by
 unfold Lk at*
 rw[List.flatMap_assoc];exact ed l _ k n h hl
structure SmR (r:aom):Prop where
 rows:r.back.length<=3/\r.in'.length<=3/\r.ahead.length<=3
 sets:(∀s∈r.back,s.length<=4)/\(∀s∈r.in',s.length<=4)/\∀s∈r.ahead,s.length<=4
 outs:r.out.length<=4/\r.calls.length<=2
structure SmG (g:anP):Prop where
 pts:g.points.length<=12
 ends:g.ends.length<=2
 parts:g.parts.length<=1
 anch:g.anchors.length<=5
 an1:g.deltas.length<=40
 hint:g.hint.length<=60
structure SmF (f:Fnt):Prop where
 anL:f.anL.length<=10/\∀g∈f.anL,SmG g
 chars:f.chars.length<=16
 anM:f.anM.length<=6/\∀l∈f.anM,l.rules.length<=3/\∀r∈l.rules,SmR r
 an3:f.features.length<=8/\∀x∈f.features,x.anM.length<=6
 anR:f.anR.length<=2
 regs:f.regions.length<=3/\∀r∈f.regions,r.anT.length<=2
 funcs:f.funcs.length<=2/\∀p∈f.funcs,p.length<=60
 cvt:f.cvt.length<=3
theorem Y5:∀s∈opNames,s.length<=8:=by decide
theorem abm:∀s∈aS,s.length<=9:=by decide
theorem YE:∀s∈anchorNames,s.length<=9:=by decide
theorem qH (l:List B)(k:Nat)(h:∀s∈l,s.length<=k)(hk:1<=k)(n:Int):(pick l n).length<=k:=by
 unfold pick;split
 ·exact hk
 cases e:l[(n - 1).toNat]? with
 |none=>exact hk
 |some s=>exact h s (aqt e)
theorem xh {gs:List anP}(h:∀g∈gs,nameB g.name=true){n:Int}(hn:In gs.length n):(iI gs n).length<=32:=by obtain⟨h1,h2⟩:=hn;have e:gs[n.toNat]? =some (gs[n.toNat]'(by omega)):=aqn (by omega);unfold iI;rw[if_neg (by omega),e];exact nt (ul (h _ (List.getElem_mem _))) (by decide)
theorem aee {i:Ins}(h:N9 i.a):(ku i).length<=32:=by
 have h1:=qH opNames 8 Y5 (by decide) i.op;have h2:=uI i.a h;unfold ku tH;rw[az];split
 ·simp only[ln];omega
 rw[ay];omega
theorem aeG {p:Pt}(h:N9 p.x/\N9 p.y):(ry p).length<=32:=by
 have h1:=uI p.x h.1;have h2:=uI p.y h.2;unfold ry;simp only[az,ay];split
 ·simp only[ln];omega
 simp only[ay,ln];omega
theorem abC {c:Call}(h:N9 c.at'/\N9 c.lookup):(aN c.at'++58::aN c.lookup).length<=32:=by have h1:=uI c.at' h.1;have h2:=uI c.lookup h.2;simp only[az,ay];omega
theorem n32 {n:Int}(h:N9 n):(aN n).length<=32:=nt (uI n h) (by decide)
theorem aff {p:List Ins}(h:mg p):W32 (p.map ku):=W32.map fun i hi=>aee (h i hi).2.2
theorem UJ {p:List Ins}(h:mg p)(hl:p.length<=60){a:B}(ha:a.length<=32):Lk [a::p.map ku] 2014:=Lk.line (n:=61) (.cons ha (aff h)) (by rw[ay,aqs];omega)
theorem L6 (pts:List Pt)(es:List Int):∀fr,(dL pts fr es).length<=es.length/\∀c∈dL pts fr es,c.length<=pts.length/\∀p∈c,p∈pts:=by
 induction es with
 |nil=>intro fr;simp[dL]
 |cons e es ih=>
  intro fr;rw[dL];split
  ·simp
  obtain⟨h1,h2⟩:=ih (e.toNat+1);refine⟨by simp only[ay];omega,fun c hc=> ?_⟩;rw[aqx] at hc;rcases hc with rfl|hc
  ·refine⟨?_,fun p hp=>List.mem_of_mem_take (List.mem_of_mem_drop hp)⟩;rw[aq0,aqH];omega
  exact h2 c hc
theorem abJ {gs:List anP}(hn:∀g∈gs,nameB g.name=true)(all:Bool){g:anP}(h:OkG gs.length g)(hs:SmG g):Lk (uS gs all g) 10610:=by
 unfold uS;have e:10610=133+(2*430+(1*133+(5*166+(40*166+2014)))):=rfl;rw[e];obtain⟨c1,c2⟩:=L6 g.points g.ends 0;refine .cons (Lk.line (n:=4) (.cons (by decide) (.cons (nt (ul h.name) (by decide)) (.cons (n32 h.adv) ?_))) ?_) (.app (.map (fun c hc=> ?_) (nt c1 hs.ends)) (.app (.map (fun p hp=> ?_) hs.parts) (.app (.map (fun a ha=> ?_) hs.anch) (.app (.map (fun d hd=> ?_) hs.an1) ?_))))
 ·split
  ·exact .cons (by decide) .nil
  exact .nil
 ·unfold Gj;simp only[ay];split<;>simp
 ·obtain⟨d1,d2⟩:=c2 c hc;exact Lk.line (n:=13) (.cons (by decide) (.map fun p hp=>aeG (h.pts p (d2 p hp)))) (by unfold OL;rw[ay,aqs];have:=hs.pts;omega)
 ·have:=h.parts p hp;exact Lk.line (n:=4) (.cons (by decide) (.cons (xh hn this.1) (.cons (n32 this.2.1) (.cons (n32 this.2.2) .nil)))) (by simp[AO])
 ·have:=h.anch a ha;exact Lk.line (n:=5) (.cons (by decide) (.cons (nt (qH _ 9 YE (by decide) _) (by decide)) (.cons (n32 this.2.2.1) (.cons (n32 this.2.2.2.1) (.cons (n32 this.2.2.2.2) .nil))))) (by simp[Bf])
 ·have:=h.an1 d hd;exact Lk.line (n:=5) (.cons (by decide) (.cons (n32 this.1) (.cons (n32 this.2.1) (.cons (n32 this.2.2.1) (.cons (n32 this.2.2.2) .nil))))) (by simp[Bi])
 split
 ·exact UJ h.hint hs.hint (by decide)
 exact .nil _
theorem af4 {gs:List anP}(hn:∀g∈gs,nameB g.name=true){ws:List (List Int)->List B}(hw:∀l,(∀s∈l,∀n∈s,In gs.length n)->(∀s∈l,s.length<=4)->l.length<=3->W32 (ws l)/\(ws l).length<=18){kind:Int}{r:aom}(h:OkR gs.length kind r)(hs:SmR r):
  Lk [mF::(ws r.back++[47]::ws r.in'++[47]::ws r.ahead++[62]::outW gs kind r)] 2047:=by
 obtain⟨a1,a2⟩:=hw r.back (fun s hs=>(h.back s hs).2) hs.sets.1 hs.rows.1;obtain⟨b1,b2⟩:=hw r.in' (fun s hs=>(h.in' s hs).2) hs.sets.2.1 hs.rows.2.1;obtain⟨c1,c2⟩:=hw r.ahead (fun s hs=>(h.ahead s hs).2) hs.sets.2.2 hs.rows.2.2;have ho:W32 (outW gs kind r)/\(outW gs kind r).length<=4:=by
  unfold outW;split
  ·exact⟨.map fun n hn'=>xh hn (h.out n hn'),by rw[aqs];exact hs.outs.1⟩
  split
  ·exact⟨.map fun c hc=>abC (h.calls c hc),by rw[aqs];have:=hs.outs.2;omega⟩
  split
  ·exact⟨.cons (n32 h.x) .nil,by simp⟩
  exact⟨.nil,by simp⟩
 refine Lk.line (n:=62) (.cons (by decide) ((((a1.app (.cons (by decide) b1)).app (.cons (by decide) c1))).app (.cons (by decide) ho.1))) ?_;simp only[ay,az];omega
theorem XL {gs:List anP}(hn:∀g∈gs,nameB g.name=true){ws:List (List Int)->List B}(hw:∀l,(∀s∈l,∀n∈s,In gs.length n)->(∀s∈l,s.length<=4)->l.length<=3->W32 (ws l)/\(ws l).length<=18){l:Lookup}
  (h:∀r∈l.rules,OkR gs.length l.kind r) (hs:l.rules.length<=3/\∀r∈l.rules,SmR r):Lk (BH gs ws l) 6241:=by
 unfold BH;have e:6241=100+3*2047:=rfl;rw[e];refine .cons (Lk.line (n:=3) (.cons (by decide) (.cons (nt (qH _ 9 abm (by decide) _) (by decide)) ?_)) ?_) (.map (fun r hr=>af4 hn hw (h r hr) (hs.2 r hr)) hs.1)
 ·split
  ·exact .cons (by decide) .nil
  exact .nil
 unfold Gq;simp only[ay];split<;>simp
theorem adz {gs:List anP}(hn:∀g∈gs,nameB g.name=true)(l:List (List Int))(h:∀s∈l,∀n∈s,In gs.length n)(h4:∀s∈l,s.length<=4)(h3:l.length<=3):W32 (gZ gs l)/\(gZ gs l).length<=18:=by
 unfold gZ;refine⟨.flat fun s hs=> ?_,ed l _ 6 3 (fun s hs=> ?_) h3⟩
 ·exact(W32.cons (by decide) (.map fun n hn'=>xh hn (h s hs n hn'))).app (.cons (by decide) .nil)
 have:=h4 s hs;simp only[aqC,ay,az,aqs,ln];omega
section
variable {f:Fnt} (h:aoR f) (hs:SmF f)
include h in
theorem pM:∀g∈f.anL,nameB g.name=true:=fun g hg=>(h.anL g hg).name
include h hs in
theorem adK:Lk (f.anR.map xN) 332:= .mono (.map (k:=166) (n:=2) (fun a ha=>by
 have:=h.anR a ha;exact Lk.line (n:=5) (.cons (by decide) (.cons (nt (ul this.1) (by decide)) (.cons (n32 this.2.1) (.cons (n32 this.2.2.1) (.cons (n32 this.2.2.2) .nil))))) (by simp[xN])) hs.anR) (by decide)
include h hs in
theorem aer:Lk (f.regions.map Bh) 696:= .mono (.map (k:=232) (n:=3) (fun r hr=>by
 have:=h.regs r hr;refine Lk.line (n:=7) (.cons (by decide) (.flat fun t ht=> .cons (n32 (this t ht).1) (.cons (n32 (this t ht).2.1) (.cons (n32 (this t ht).2.2) .nil)))) ?_;have:=ed r.anT AC 3 2 (fun t _=>by simp[AC]) (hs.regs.2 r hr);unfold Bh;rw[ay];omega) hs.regs.1) (by decide)
include h hs in
theorem aby:Lk (f.funcs.map LY) 4028:= .mono (.map (k:=2014) (n:=2) (fun p hp=>UJ (h.funcs p hp) (hs.funcs.2 p hp) (by decide)) hs.funcs.1) (by decide)
include h hs in
theorem X4 (all:Bool):Lk (f.anL.flatMap (uS f.anL all)) 106100:= .mono (.flat (k:=10610) (n:=10) (fun g hg=>abJ (pM h) all (h.anL g hg) (hs.anL.2 g hg)) hs.anL.1) (by decide)
include h hs in
theorem abp:Lk (f.chars.map (yf f.anL)) 1600:= .mono (.map (k:=100) (n:=16) (fun c hc=>Lk.line (n:=3) (.cons (by decide) (.cons (n32 (h.chars c hc).1) (.cons (xh (pM h) (h.chars c hc).2) .nil))) (by simp[yf])) hs.chars) (by decide)
include h hs in
theorem aa5:Lk (f.features.map Dn) 2120:= .mono (.map (k:=265) (n:=8) (fun x hx=>Lk.line (n:=8) (.cons (by decide) (.cons (nt (ul (h.an3 x hx).1) (by decide)) (.it (h.an3 x hx).2))) (by
 have:=hs.an3.2 x hx;simp only[Dn,ay,aqs];omega)) hs.an3.1) (by decide)
include h in
theorem adl:Lk [[oH,aN f.unit]] 67:=Lk.line (n:=2) (.cons (by decide) (.cons (n32 h.unit) .nil)) (by simp)
include h hs in
theorem Ad:(DW f).length<=160000:=by
 have key:Lk (qO f) 160000:=by unfold qO;have hl:Lk (f.anM.flatMap (BH f.anL (gZ f.anL))) 37446:= .mono (.flat (k:=6241) (n:=6) (fun l hl=>XL (pM h) (adz (pM h)) (h.anM l hl).2.2 (hs.anM.2 l hl)) hs.anM.1) (by decide);have hc:Lk (f.cvt.map (fun n=>[pz,aN n])) 201:= .mono (.map (k:=67) (n:=3) (fun n hn=>Lk.line (n:=2) (.cons (by decide) (.cons (n32 (h.cvt n hn)) .nil)) (by simp)) hs.cvt) (by decide);exact .mono ((adl h).app ((adK h hs).app ((aer h hs).app (hc.app ((aby h hs).app (hl.app ((X4 h hs true).app ((abp h hs).app (aa5 h hs))))))))) (by decide)
 exact key
include h hs in
end
end
section
def zQ (t:B):Bool:=t.getLast? ==some 42
theorem agR (t:B):Lib.trimSuffix t [42]=dU t/\Lib.hasSuffix t [42]=zQ t:=by
 have hs:Lib.hasSuffix t [42]=zQ t:=by
  rw[Lib.hasSuffix,zQ,Bool.eq_iff_iff,List.isSuffixOf_iff_suffix,beq_iff_eq];constructor
  ·rintro⟨r,rfl⟩;exact List.getLast?_concat
  intro h;obtain⟨r,hr⟩:=List.getLast?_eq_some_iff.1 h;exact⟨r,hr.symm⟩
 refine⟨?_,hs⟩;rw[Lib.trimSuffix,hs,dU,zQ];by_cases h:t.getLast? =some 42
 ·rw[if_pos h,if_pos (by simpa using h),List.dropLast_eq_take];rfl
 rw[if_neg h,if_neg (by simpa using h)]
theorem ZF (w:World)(t:B)(ht:t.length<=100000000):Calls Tryz.prog 171 #[.string ⟨t.toArray⟩,.string ⟨#[42]⟩] w fun e w'=>e= .returned (.tuple #[.string ⟨(dU t).toArray⟩,.bool (zQ t)])/\w=w':=by obtain⟨e1,e2⟩:=agR t;refine(Tryz.strings_CutSuffix ⟨t.toArray⟩ ⟨#[42]⟩ w (by show t.length<=_;omega)).mono ?_;rintro e w' ⟨h1,h2⟩;refine⟨?_,h2.symm⟩;rw[h1,<-e1,<-e2]
theorem VT (t:B):(dU t).length<=t.length:=by
 unfold dU;split
 ·simp
 exact ag _
theorem QY (c:UInt8)(t:B):(df c t).length<=t.length:=(List.takeWhile_prefix (l:=t) (fun x=>x !=c)).length_le
theorem Fj (c:UInt8)(t:B):(dM c t).length<=t.length:=by unfold dM;have:=(List.dropWhile_suffix (l:=t) (fun x=>x !=c)).length_le;simp;omega
theorem Bq (f:Int->B->Int){l m:List B}{z:B}(err:Int)(h:m=l++[z]):m.foldl f err=f (l.foldl f err) z:=by subst h;simp
def qC (l:List Ins):List Value:=l.flatMap fun i=>[.int .i64 i.op,.int .i64 i.a]
def Cb (l:List Pt):List Value:=l.flatMap fun i=>[.int .i64 i.x,.int .i64 i.y,.bool i.on]
def sG (l:List Call):List Value:=l.flatMap fun i=>[.int .i64 i.at',.int .i64 i.lookup]
theorem Rdr.drewN {w:World}{rb p:Nat}{err:Int}(h:Rdr w rb p err)(n:Nat):Rdr (w.drewN n) rb p err:=h
theorem Bk.newAt (W:World)(h:Nat)(hh:W.heap.size=h){t:TypeId}{cs:Array Value}:Bk (W.alloc (.cells cs t)) h t cs:=by subst hh;exact Bk.new _ _ _
theorem Bk.kept2 {w w':World}{rb g:Nat}(hg:w.grownBy w' (some rb)){t:TypeId}{cs:Array Value}(h:Bk w g t cs)(hne:g≠rb):Bk w' g t cs:=(hg.block g h.lt (fun e=>by injection e with e;exact hne e)).trans h
def nT:Nat:=3+1
structure aoi (w:World):Prop where
 ops:aoN w 0 (strs opNames)
 anch:aoN w 2 (strs anchorNames)
 kinds:aoN w 3 (strs aS)
theorem aoN.keep {w w':World}{g:Nat}{cs:List Value}(h:aoN w g cs)(hk:w'.heap[g]? =w.heap[g]?):aoN w' g cs:=by obtain⟨t,fz,h⟩:=h;exact⟨t,fz,hk.trans h⟩
theorem aoi.grown {w w':World}{row:Option Nat}(h:aoi w)(hg:w.grownBy w' row)(hr:∀g,row=some g->nT<=g):aoi w':=by unfold nT at hr;refine⟨h.ops.keep (hg.block _ h.ops.lt fun e=> ?_),h.anch.keep (hg.block _ h.anch.lt fun e=> ?_),h.kinds.keep (hg.block _ h.kinds.lt fun e=> ?_)⟩<;>(have:=hr _ e.symm;omega)
theorem aoi.below {w w':World}(h:aoi w)(hb:Below w.heap.size w w'):aoi w':=h.grown (row:=none) (aH hb none) (fun g e=>by cases e)
theorem FH {α:Type}{l m:List B}{z:B}(f:B->α)(h:m=l++[z]):m.map f=l.map f++[f z]:=by subst h;simp
theorem acb (w:World)(rb p:Nat)(err:Int)(A:Option Addr)(n c:Nat)(ws:List P3)(hR:Rdr w rb p err)(hw:RdT w 124 A n 3 (dD ws))(hl:∀x∈ws,x.2.2.length<=100000000)(hn:n<=1000000000):
  Calls Tryz.prog 174 #[.pointer (some ⟨rb,0,none⟩),.slice A n c] w (Oy 95 2 w rb p ((ah ws).foldl mQ err) n (sG ((ah ws).map jW))):=by
 have hwl:=hd0 hw.rd.aoE;have HR:=hd0 hR;have HW:=hd0 hw;have HL:=hd0 hl;clear hR hw hl;go_enter Tryz.func174,Tryz.ntmps174
 go_wp2;go_loopw [5,14] (fun v i wr=>∃k:Nat,k<=n/\i= .int .i64 k/\aoc 95 2 w rb p (((ah ws).take k).foldl mQ err) k (sG (((ah ws).take k).map jW)) v wr) (fun _ i _=>n - (intOf i).toNat)
 case atStart=>exact⟨0,nz _,rfl,aoc.start HR.out (World.grownBy.refl _ _)⟩
 case round=>
  obtain⟨k,hk,rfl,A4,c4,rfl,ho,hr,hg⟩:=hrel;by_cases hlt:k<n
  ·obtain⟨b,o,x,y,z,rfl,hp,q1,q2,q3⟩:=yX HW.out HR.out hg hlt;have hz:z.length<=100000000:=HL.out _ (uf hp.out);have hs:=uA hp.out;have hs1:=hd0 (FH jW hs);have hs2:=hd0 (Bq mQ err hs);have hr0:=hd0 hr;have HG:=hd0 hg;have hsz:=hg.size;have hrb:rb<wr.heap.size:=hr.lt;have hcs:Hid (sG (((ah ws).take k).map jW++[jW z])=sG (((ah ws).take k).map jW)++sG [jW z]):=by show _=_;simp[sG]
   rw[<-hs1.out] at hcs;generalize sG (((ah ws).take k).map jW)=xs at*
   generalize ((ah ws).take k).foldl mQ err=er at*
   have hx:=nt (QY 58 z) hz;have hy:=nt (Fj 58 z) hz;have hc1:=hd0 (fun w=>PK w z 58 hz);have hn1:=hd0 (fun w h=>dP w rb p er (df 58 z) h hx);have hn2:=hd0 (fun w h=>dP w rb p (aT er (df 58 z)) (dM 58 z) h hy);have hes:Hid (mQ er z=aT (aT er (df 58 z)) (dM 58 z)):=rfl;have hvs:Hid (sG [jW z]=[.int .i64 (aI (df 58 z)),.int .i64 (aI (dM 58 z))]):=rfl;generalize hr1e:aT er (df 58 z)=er1 at*
   generalize hr2e:aT er1 (dM 58 z)=Bg at*
   generalize aI (df 58 z)=v1 at*
   generalize aI (dM 58 z)=v2 at*
   clear hp hs hz hr hx hy hr1e hr2e hg;go_wp2_with (go_at_call 168;refine(hc1.out _).mono ?_;rintro e w1 ⟨rfl,nd,rfl⟩)
   go_wp2_with fail
   refine(hn1.out _ (by exact((hr0.out.alloc _).drewN nd).alloc _)).mono ?_;rintro e w2 ⟨rfl,hr2,hg2⟩;have tK:wr.grownBy w2 (some rb):=cZ (jb (jD (World.grownBy_alloc wr _ _) nd) _) hg2;have B1:Bk w2 (wr.heap.size+1) 95 #[.int .i64 0,.int .i64 0]:=Bk.kept2 hg2 (Bk.newAt _ _ (by simp)) (by simp;omega);have c0:=B1.cell 0;have f0:=B1.frozen 0;have z2:=B1.lt;simp only[List.getElem?_toArray,aqw] at c0;have HB1:=hd0 B1;have Ce:=hd0 tK;have lT:=hd0 hr2;clear B1 tK hr2 hg2;go_wp2_with fail
   refine(hn2.out _ (by exact Bk.far lT.out (by simp;omega) _)).mono ?_;rintro e w3 ⟨rfl,hr3,hg3⟩;have wU:wr.grownBy w3 (some rb):=cZ (bn Ce.out (.inr (by simp)) _) hg3;have B2:Bk w3 (wr.heap.size+1) 95 #[.int .i64 v1,.int .i64 0]:=Bk.kept2 hg3 (HB1.out.set 0 _) (by simp;omega);have d0:w3.cell? ⟨wr.heap.size+1,0,none⟩=some (.int .i64 v1):=B2.cell 0;have d1:w3.cell? ⟨wr.heap.size+1,1,none⟩=some (.int .i64 0):=B2.cell 1;have g1:=B2.frozen 1;have z3:=B2.lt;have Bz:=hd0 wU;have lY:=hd0 hr3;clear B2 wU hr3 hg3;go_wp2_with (at_builtin;refine iQ Qn rfl (.tmp 33) (.tmp 35) rfl (w3.setCell ⟨wr.heap.size+1,1,none⟩ (.int .i64 v2)) w3.heap.size (by simp) w.heap.size k c4 A4 xs #[.int .i64 v1,.int .i64 v2] rfl rfl rfl (ho.kept (bn Bz.out (.inr (by simp)) _) (bZ ho hr0.out (by decide))) (by simp[Value.oneCell']) (by omega) (by simp;omega) ?_;intro A5 c5 w4 iZ hg4 _)
   go_roundw
   case rel=>exact⟨k+1,by omega,by simp,by rw[hs2.out,hes.out,hcs.out,hvs.out];exact aoc.next ho hr0.out HG.out (Bk.far lY.out (by simp;omega) _) (bn Bz.out (.inr (by simp)) _) iZ hg4 (by decide)⟩
   case measure=>simp[intOf];omega
  obtain rfl:k=n:=by omega
  have ht:Hid ((ah ws).take k=ah ws):=by show _=_;exact aqE (by rw[iq,hwl.out];exact ag _)
  rw[ht.out] at ho hr;go_wp2;go_ret
  exact⟨_,rfl,A4,c4,rfl,ho,hr,hg⟩
theorem Zt (w:World)(rb p:Nat)(err:Int)(A:Option Addr)(n c:Nat)(ws:List P3)(hR:Rdr w rb p err)(hw:RdT w 124 A n 3 (dD ws))(hl:∀x∈ws,x.2.2.length<=100000000)(hn:n<=1000000000):
  Calls Tryz.prog 131 #[.pointer (some ⟨rb,0,none⟩),.slice A n c] w (Oy 139 3 w rb p ((ah ws).foldl xG err) n (Cb ((ah ws).map qJ))):=by
 have hwl:=hd0 hw.rd.aoE;have HR:=hd0 hR;have HW:=hd0 hw;have HL:=hd0 hl;clear hR hw hl;go_enter Tryz.func131,Tryz.ntmps131
 go_wp2;go_loopw [5,16] (fun v i wr=>∃k:Nat,k<=n/\i= .int .i64 k/\aoc 139 3 w rb p (((ah ws).take k).foldl xG err) k (Cb (((ah ws).take k).map qJ)) v wr) (fun _ i _=>n - (intOf i).toNat)
 case atStart=>exact⟨0,nz _,rfl,aoc.start HR.out (World.grownBy.refl _ _)⟩
 case round=>
  obtain⟨k,hk,rfl,A4,c4,rfl,ho,hr,hg⟩:=hrel;by_cases hlt:k<n
  ·obtain⟨b,o,x,y,z,rfl,hp,q1,q2,q3⟩:=yX HW.out HR.out hg hlt;have hz:z.length<=100000000:=HL.out _ (uf hp.out);have hs:=uA hp.out;have hs1:=hd0 (FH qJ hs);have hs2:=hd0 (Bq xG err hs);have hr0:=hd0 hr;have HG:=hd0 hg;have hsz:=hg.size;have hrb:rb<wr.heap.size:=hr.lt;have hcs:Hid (Cb (((ah ws).take k).map qJ++[qJ z])=Cb (((ah ws).take k).map qJ)++Cb [qJ z]):=by show _=_;simp[Cb]
   rw[<-hs1.out] at hcs;generalize Cb (((ah ws).take k).map qJ)=xs at*
   generalize ((ah ws).take k).foldl xG err=er at*
   have hu:=nt (VT z) hz;have hx:=nt (QY 44 (dU z)) hu;have hy:=nt (Fj 44 (dU z)) hu;have hc0:=hd0 (fun w=>ZF w z hz);have hc1:=hd0 (fun w=>PK w (dU z) 44 hu);have hn1:=hd0 (fun w h=>dP w rb p er (df 44 (dU z)) h hx);have hn2:=hd0 (fun w h=>dP w rb p (aT er (df 44 (dU z))) (dM 44 (dU z)) h hy);have hes:Hid (xG er z=aT (aT er (df 44 (dU z))) (dM 44 (dU z))):=rfl;have hvs:Hid (Cb [qJ z]=[.int .i64 (aI (df 44 (dU z))),.int .i64 (aI (dM 44 (dU z))),.bool (!zQ z)]):=rfl;generalize hr1e:aT er (df 44 (dU z))=er1 at*
   generalize hr2e:aT er1 (dM 44 (dU z))=Bg at*
   generalize aI (df 44 (dU z))=v1 at*
   generalize aI (dM 44 (dU z))=v2 at*
   generalize zQ z=sb at*
   clear hp hs hz hr hx hy hr1e hr2e hg hu;go_wp2_with (go_at_call 171;refine(hc0.out _).mono ?_;rintro e w0 ⟨rfl,rfl⟩)
   go_wp2_with (go_at_call 168;refine(hc1.out _).mono ?_;rintro e w1 ⟨rfl,nd,rfl⟩)
   go_wp2_with fail
   refine(hn1.out _ (by exact((hr0.out.alloc _).drewN nd).alloc _)).mono ?_;rintro e w2 ⟨rfl,hr2,hg2⟩;have tK:wr.grownBy w2 (some rb):=cZ (jb (jD (World.grownBy_alloc wr _ _) nd) _) hg2;have B1:Bk w2 (wr.heap.size+1) 139 #[.int .i64 0,.int .i64 0,.bool (!sb)]:=Bk.kept2 hg2 (Bk.newAt _ _ (by simp)) (by simp;omega);have c0:w2.cell? ⟨wr.heap.size+1,0,none⟩=some (.int .i64 0):=B1.cell 0;have f0:=B1.frozen 0;have z2:=B1.lt;have HB1:=hd0 B1;have Ce:=hd0 tK;have lT:=hd0 hr2;clear B1 tK hr2 hg2;go_wp2_with fail
   refine(hn2.out _ (by exact Bk.far lT.out (by simp;omega) _)).mono ?_;rintro e w3 ⟨rfl,hr3,hg3⟩;have wU:wr.grownBy w3 (some rb):=cZ (bn Ce.out (.inr (by simp)) _) hg3;have B2:Bk w3 (wr.heap.size+1) 139 #[.int .i64 v1,.int .i64 0,.bool (!sb)]:=Bk.kept2 hg3 (HB1.out.set 0 _) (by simp;omega);have d0:w3.cell? ⟨wr.heap.size+1,0,none⟩=some (.int .i64 v1):=B2.cell 0;have d1:w3.cell? ⟨wr.heap.size+1,1,none⟩=some (.int .i64 0):=B2.cell 1;have d2:w3.cell? ⟨wr.heap.size+1,2,none⟩=some (.bool (!sb)):=B2.cell 2;have g1:=B2.frozen 1;have z3:=B2.lt;have Bz:=hd0 wU;have lY:=hd0 hr3;clear B2 wU hr3 hg3;go_wp2_with (at_builtin;refine iQ ZY rfl (.tmp 43) (.tmp 45) rfl (w3.setCell ⟨wr.heap.size+1,1,none⟩ (.int .i64 v2)) w3.heap.size (by simp) w.heap.size k c4 A4 xs #[.int .i64 v1,.int .i64 v2,.bool (!sb)] rfl rfl rfl (ho.kept (bn Bz.out (.inr (by simp)) _) (bZ ho hr0.out (by decide))) (by simp[Value.oneCell']) (by omega) (by simp;omega) ?_;intro A5 c5 w4 iZ hg4 _)
   go_roundw
   case rel=>exact⟨k+1,by omega,by simp,by rw[hs2.out,hes.out,hcs.out,hvs.out];exact aoc.next ho hr0.out HG.out (Bk.far lY.out (by simp;omega) _) (bn Bz.out (.inr (by simp)) _) iZ hg4 (by decide)⟩
   case measure=>simp[intOf];omega
  obtain rfl:k=n:=by omega
  have ht:Hid ((ah ws).take k=ah ws):=by show _=_;exact aqE (by rw[iq,hwl.out];exact ag _)
  rw[ht.out] at ho hr;go_wp2;go_ret
  exact⟨_,rfl,A4,c4,rfl,ho,hr,hg⟩
theorem X6 (w:World)(rb p:Nat)(err:Int)(A:Option Addr)(n c:Nat)(ws:List P3)(hT:aoi w)(hrb0:nT<=rb)(hR:Rdr w rb p err)(hw:RdT w 124 A n 3 (dD ws))(hl:∀x∈ws,x.2.2.length<=100000000)(hn:n<=1000000000):
  Calls Tryz.prog 126 #[.pointer (some ⟨rb,0,none⟩),.slice A n c] w (Oy 61 2 w rb p ((ah ws).foldl rC err) n (qC ((ah ws).map jP))):=by
 have hwl:=hd0 hw.rd.aoE;have HR:=hd0 hR;have HW:=hd0 hw;have HL:=hd0 hl;clear hR hw hl;go_enter Tryz.func126,Tryz.ntmps126
 go_wp2;go_loopw [5,16] (fun v i wr=>∃k:Nat,k<=n/\i= .int .i64 k/\aoc 61 2 w rb p (((ah ws).take k).foldl rC err) k (qC (((ah ws).take k).map jP)) v wr) (fun _ i _=>n - (intOf i).toNat)
 case atStart=>exact⟨0,nz _,rfl,aoc.start HR.out (World.grownBy.refl _ _)⟩
 case round=>
  obtain⟨k,hk,rfl,A4,c4,rfl,ho,hr,hg⟩:=hrel;by_cases hlt:k<n
  ·obtain⟨b,o,x,y,z,rfl,hp,q1,q2,q3⟩:=yX HW.out HR.out hg hlt;have hz:z.length<=100000000:=HL.out _ (uf hp.out);have hs:=uA hp.out;have hs1:=hd0 (FH jP hs);have hs2:=hd0 (Bq rC err hs);have hr0:=hd0 hr;have HG:=hd0 hg;have hsz:=hg.size;have hrb:rb<wr.heap.size:=hr.lt;have hcs:Hid (qC (((ah ws).take k).map jP++[jP z])=qC (((ah ws).take k).map jP)++qC [jP z]):=by show _=_;simp[qC]
   rw[<-hs1.out] at hcs;generalize qC (((ah ws).take k).map jP)=xs at*
   generalize ((ah ws).take k).foldl rC err=er at*
   have hy:=nt (Fj 58 z) hz;have hT0:=hT.grown hg (fun g e=>by cases e;exact hrb0);have HT1:Hid (∀nd,aoi ((wr.alloc (.cells #[.int .i64 x,.int .i64 y,.string ⟨z.toArray⟩] 124)).drewN nd)):=fun nd=>hT0.below (below_drewN ((aqk _ _).alloc (ag _) _) nd)
   have hc1:=hd0 (fun w=>PK w z 58 hz);have hop:Hid (∀w,aoi w->_):=hd0 (fun w (h:aoi w)=>FW w (df 58 z) h.ops);have hes0:Hid (rC er z=if hasB 58 z then aT (if er=0/\qW (df 58 z)=0 then 23 else er) (dM 58 z) else if er=0/\qW (df 58 z)=0 then 23 else er):=rfl;have uP:Hid (qC [jP z]=[.int .i64 (qW (df 58 z)),.int .i64 (if hasB 58 z then aI (dM 58 z) else 0)]):=rfl;have hn0:=hd0 (fun w er h=>dP w rb p er (dM 58 z) h hy);generalize hopv:qW (df 58 z)=opv at*
   clear hp hs hz hr hy hg hT0 hopv;by_cases ho0:opv=0
   ·have hok:Hid ((opv !=0)=false):=by show _=_;simp[ho0]
    have XI:(if er=0/\opv=0 then(23:Int) else er)=eC er 23:=by rw[eC];simp[ho0]
    rw[XI] at hes0;clear ho0 XI;cases hsb:hasB 58 z
    ·have hsm:Hid (hasB 58 z=false):=hsb;rw[hsb] at hes0 uP;have hes:Hid (rC er z=eC er 23):=hes0.out;have hvs:Hid (qC [jP z]=[.int .i64 opv,.int .i64 0]):=uP.out;clear hsb hes0 uP;go_wp2_with (go_at_call 168;refine(hc1.out _).mono ?_;rintro e w1 ⟨rfl,nd,rfl⟩;rw[hsm.out])
     go_wp2_with (go_at_call 25;refine(hop.out _ (by exact HT1.out nd)).mono ?_;rintro e w1 ⟨rfl,rfl⟩;rw[hok.out])
     go_wp2_with fail
     refine(qM _ rb p er 23 (by exact(hr0.out.alloc _).drewN nd)).mono ?_;rintro e w2 ⟨rfl,hr2,hg2⟩;have tK:wr.grownBy w2 (some rb):=cZ (jD (World.grownBy_alloc wr _ _) nd) hg2;have z2:=tK.size;have Ce:=hd0 tK;have lT:=hd0 hr2;clear tK hr2 hg2;go_wp2_with (at_builtin;refine iQ Ea rfl (.tmp 43) (.tmp 45) rfl (w2.alloc (.cells #[.int .i64 opv,.int .i64 0] 61)) (w2.heap.size+1) (by simp) w.heap.size k c4 A4 xs #[.int .i64 opv,.int .i64 0] rfl rfl rfl (ho.kept (jb Ce.out _) (bZ ho hr0.out (by decide))) (by simp[Value.oneCell']) (by omega) (by simp;omega) ?_;intro A5 c5 w4 iZ hg4 _)
     go_roundw
     case rel=>exact⟨k+1,by omega,by simp,by rw[hs2.out,hes.out,hcs.out,hvs.out];exact aoc.next ho hr0.out HG.out (lT.out.alloc _) (jb Ce.out _) iZ hg4 (by decide)⟩
     case measure=>simp[intOf];omega
    have hsm:Hid (hasB 58 z=true):=hsb;rw[hsb] at hes0 uP;have hes:Hid (rC er z=aT (eC er 23) (dM 58 z)):=hes0.out;have hvs:Hid (qC [jP z]=[.int .i64 opv,.int .i64 (aI (dM 58 z))]):=uP.out;have hn2:=hd0 (fun w h=>hn0.out w (eC er 23) h);generalize aT (eC er 23) (dM 58 z)=Bg at*
    generalize aI (dM 58 z)=v2 at*
    clear hsb hes0 uP;go_wp2_with (go_at_call 168;refine(hc1.out _).mono ?_;rintro e w1 ⟨rfl,nd,rfl⟩;rw[hsm.out])
    go_wp2_with (go_at_call 25;refine(hop.out _ (by exact HT1.out nd)).mono ?_;rintro e w1 ⟨rfl,rfl⟩;rw[hok.out])
    go_wp2_with fail
    refine(qM _ rb p er 23 (by exact(hr0.out.alloc _).drewN nd)).mono ?_;rintro e w2 ⟨rfl,hr2,hg2⟩;have tK:wr.grownBy w2 (some rb):=cZ (jD (World.grownBy_alloc wr _ _) nd) hg2;have z2:=tK.size;have Ce:=hd0 tK;have lT:=hd0 hr2;clear tK hr2 hg2;go_wp2_with fail
    refine(hn2.out _ (by exact lT.out.alloc _)).mono ?_;rintro e w3 ⟨rfl,hr3,hg3⟩;have wU:wr.grownBy w3 (some rb):=cZ (jb Ce.out _) hg3;have B2:Bk w3 w2.heap.size 61 #[.int .i64 opv,.int .i64 0]:=Bk.kept2 hg3 (Bk.new _ _ _) (by omega);have d0:w3.cell? ⟨w2.heap.size,0,none⟩=some (.int .i64 opv):=B2.cell 0;have d1:w3.cell? ⟨w2.heap.size,1,none⟩=some (.int .i64 0):=B2.cell 1;have g1:=B2.frozen 1;have z3:=B2.lt;have Bz:=hd0 wU;have lY:=hd0 hr3;clear B2 wU hr3 hg3;go_wp2_with (at_builtin;refine iQ Ea rfl (.tmp 43) (.tmp 45) rfl (w3.setCell ⟨w2.heap.size,1,none⟩ (.int .i64 v2)) w3.heap.size (by simp) w.heap.size k c4 A4 xs #[.int .i64 opv,.int .i64 v2] rfl rfl rfl (ho.kept (bn Bz.out (.inr (by simp;omega)) _) (bZ ho hr0.out (by decide))) (by simp[Value.oneCell']) (by omega) (by simp;omega) ?_;intro A5 c5 w4 iZ hg4 _)
    go_roundw
    case rel=>exact⟨k+1,by omega,by simp,by rw[hs2.out,hes.out,hcs.out,hvs.out];exact aoc.next ho hr0.out HG.out (Bk.far lY.out (by simp;omega) _) (bn Bz.out (.inr (by simp;omega)) _) iZ hg4 (by decide)⟩
    case measure=>simp[intOf];omega
   have hok:Hid ((opv !=0)=true):=by show _=_;simpa using ho0
   have XI:(if er=0/\opv=0 then(23:Int) else er)=er:=if_neg (fun h=>ho0 h.2);rw[XI] at hes0;clear ho0 XI;cases hsb:hasB 58 z
   ·have hsm:Hid (hasB 58 z=false):=hsb;rw[hsb] at hes0 uP;have hes:Hid (rC er z=er):=hes0.out;have hvs:Hid (qC [jP z]=[.int .i64 opv,.int .i64 0]):=uP.out;clear hsb hes0 uP;go_wp2_with (go_at_call 168;refine(hc1.out _).mono ?_;rintro e w1 ⟨rfl,nd,rfl⟩;rw[hsm.out])
    go_wp2_with (first
     |(go_at_call 25;refine(hop.out _ (by exact HT1.out nd)).mono ?_;rintro e w1 ⟨rfl,rfl⟩;rw[hok.out])
     |(at_builtin;refine iQ Ea rfl (.tmp 43) (.tmp 45) rfl ((((wr.alloc (.cells #[.int .i64 x,.int .i64 y,.string ⟨z.toArray⟩] 124)).drewN nd)).alloc (.cells #[.int .i64 opv,.int .i64 0] 61)) (wr.heap.size+1+1) (by simp) w.heap.size k c4 A4 xs #[.int .i64 opv,.int .i64 0] rfl rfl rfl (ho.kept (jb (jD (World.grownBy_alloc wr _ _) nd) _) (bZ ho hr0.out (by decide))) (by simp[Value.oneCell']) (by omega) (by simp;omega) ?_;intro A5 c5 w4 iZ hg4 _))
    go_roundw
    case rel=>exact⟨k+1,by omega,by simp,by rw[hs2.out,hes.out,hcs.out,hvs.out];exact aoc.next ho hr0.out HG.out (((hr0.out.alloc _).drewN nd).alloc _) (jb (jD (World.grownBy_alloc wr _ _) nd) _) iZ hg4 (by decide)⟩
    case measure=>simp[intOf];omega
   have hsm:Hid (hasB 58 z=true):=hsb;rw[hsb] at hes0 uP;have hes:Hid (rC er z=aT er (dM 58 z)):=hes0.out;have hvs:Hid (qC [jP z]=[.int .i64 opv,.int .i64 (aI (dM 58 z))]):=uP.out;have hn2:=hd0 (fun w h=>hn0.out w er h);generalize aT er (dM 58 z)=Bg at*
   generalize aI (dM 58 z)=v2 at*
   clear hsb hes0 uP;go_wp2_with (go_at_call 168;refine(hc1.out _).mono ?_;rintro e w1 ⟨rfl,nd,rfl⟩;rw[hsm.out])
   go_wp2_with (go_at_call 25;refine(hop.out _ (by exact HT1.out nd)).mono ?_;rintro e w1 ⟨rfl,rfl⟩;rw[hok.out])
   go_wp2_with fail
   refine(hn2.out _ (by exact((hr0.out.alloc _).drewN nd).alloc _)).mono ?_;rintro e w3 ⟨rfl,hr3,hg3⟩;have wU:wr.grownBy w3 (some rb):=cZ (jb (jD (World.grownBy_alloc wr _ _) nd) _) hg3;have B2:Bk w3 (wr.heap.size+1) 61 #[.int .i64 opv,.int .i64 0]:=Bk.kept2 hg3 (Bk.newAt _ _ (by simp)) (by simp;omega);have d0:w3.cell? ⟨wr.heap.size+1,0,none⟩=some (.int .i64 opv):=B2.cell 0;have d1:w3.cell? ⟨wr.heap.size+1,1,none⟩=some (.int .i64 0):=B2.cell 1;have g1:=B2.frozen 1;have z3:=B2.lt;have Bz:=hd0 wU;have lY:=hd0 hr3;clear B2 wU hr3 hg3;go_wp2_with (at_builtin;refine iQ Ea rfl (.tmp 43) (.tmp 45) rfl (w3.setCell ⟨wr.heap.size+1,1,none⟩ (.int .i64 v2)) w3.heap.size (by simp) w.heap.size k c4 A4 xs #[.int .i64 opv,.int .i64 v2] rfl rfl rfl (ho.kept (bn Bz.out (.inr (by simp)) _) (bZ ho hr0.out (by decide))) (by simp[Value.oneCell']) (by omega) (by simp;omega) ?_;intro A5 c5 w4 iZ hg4 _)
   go_roundw
   case rel=>exact⟨k+1,by omega,by simp,by rw[hs2.out,hes.out,hcs.out,hvs.out];exact aoc.next ho hr0.out HG.out (Bk.far lY.out (by simp;omega) _) (bn Bz.out (.inr (by simp)) _) iZ hg4 (by decide)⟩
   case measure=>simp[intOf];omega
  obtain rfl:k=n:=by omega
  have ht:Hid ((ah ws).take k=ah ws):=by show _=_;exact aqE (by rw[iq,hwl.out];exact ag _)
  rw[ht.out] at ho hr;go_wp2;go_ret
  exact⟨_,rfl,A4,c4,rfl,ho,hr,hg⟩
def lN (i:Nat):B:=if i=0 then [46,110,111,116,100,101,102] else [103,(97+i).toUInt8]
theorem ahC:∀i:Fin 10,nameB (lN i.val)=true:=by decide
theorem abZ:∀k:Fin 11,((List.range k.val).map lN).Nodup:=by decide
def BK (i:Nat):B:=[97,120,(97+i).toUInt8]
theorem ae5:∀i:Fin 3,nameB (BK i.val)=true:=by decide
structure aoK (k:Nat)(p:List Pt)(e:List Int):Prop where
 pts:∀x∈p,N9 x.x/\N9 x.y
 ends:lW 0 e p.length
 few:p.length<=5*k/\e.length=k
theorem Tz (es:List Int):∀(fr n k:Nat),lW fr es n->1<=k->lW fr (es++[((n+k:Nat):Int) - 1]) (n+k):=by
 induction es with
 |nil=>intro fr n k h hk;have h:fr=n:=h;refine⟨by omega,by omega,?_⟩;show _=_;omega
 |cons e r ih=>intro fr n k h hk;obtain⟨a,b,c⟩:=h;exact⟨a,by omega,ih _ _ _ c hk⟩
theorem aoK.nil:aoK 0 [] []:=⟨by simp,rfl,by simp⟩
theorem aoK.snoc {k:Nat}{p:List Pt}{e:List Int}(h:aoK k p e){q:List Pt}(hq:∀x∈q,N9 x.x/\N9 x.y)(h1:1<=q.length)(h5:q.length<=5){z:Int}(hz:z=((p.length+q.length:Nat):Int) - 1):aoK (k+1) (p++q) (e++[z]):=by
 subst hz;refine⟨fun x hx=> ?_,?_,?_⟩
 ·rw[aqp] at hx;rcases hx with hx|hx
  ·exact h.pts x hx
  exact hq x hx
 ·rw[az];exact Tz _ _ _ _ h.ends h1
 have:=h.few;simp only[az,ay,ln];omega
structure aoG (n:Nat)(s:List Int):Prop where
 set:Pq n s
 few:s.length<=4
theorem aoG.one {n:Nat}{a:Int}(h:In n a):aoG n [a]:=⟨⟨by simp,fun x hx=>by simp only[aql] at hx;subst hx;exact h⟩,by simp⟩
theorem aoG.snoc {n:Nat}{s:List Int}(h:aoG n s){a:Int}(ha:In n a)(hlt:∀x∈s,x<a)(hl:s.length<4):aoG n (s++[a]):=by
 refine⟨⟨?_,fun x hx=> ?_⟩,by simp;omega⟩
 ·rw[List.pairwise_append];exact⟨h.set.1,by simp,fun x hx y hy=>by simp only[aql] at hy;subst hy;exact hlt x hx⟩
 rw[aqp,aql] at hx;rcases hx with hx|rfl
 ·exact h.set.2 x hx
 exact ha
structure anW (n k:Nat)(l:List (List Int)):Prop where
 sets:∀s∈l,aoG n s
 few:l.length<=k
theorem anW.nil (n k:Nat):anW n k []:=⟨by simp,nz _⟩
theorem anW.app {n k j:Nat}{a b:List (List Int)}(h:anW n k a)(g:anW n j b):anW n (k+j) (a++b):=by
 refine⟨fun s hs=> ?_,by have:=h.few;have:=g.few;rw[az];omega⟩;rw[aqp] at hs;rcases hs with hs|hs
 ·exact h.sets s hs
 exact g.sets s hs
theorem anW.one {n:Nat}{s:List Int}(h:aoG n s):anW n 1 [s]:=⟨fun x hx=>by simp only[aql] at hx;subst hx;exact h,by simp⟩
theorem anW.mono {n k j:Nat}{a:List (List Int)}(h:anW n k a)(hk:k<=j):anW n j a:=⟨h.sets,nt h.few hk⟩
structure aob (n:Nat)(kind:Int)(r:aom):Prop where
 right:OkR n kind r
 small:SmR r
theorem aob.mk' {n:Nat}{kind:Int}{r:aom}(hb:anW n 3 r.back)(hi:anW n 3 r.in')(ha:anW n 3 r.ahead)(ho:(∀x∈r.out,In n x)/\r.out.length<=4)(hc:(∀c∈r.calls,N9 c.at'/\N9 c.lookup)/\r.calls.length<=2)(hx:N9 r.x)
  (h1:kind=1\/kind=5->∃s,r.in'=[s]/\r.out.length=s.length) (h2:kind=4\/6<=kind->r.out=[]) (h3:kind≠4->r.calls=[]) (h4:kind≠6->r.x=0):aob n kind r:=
 ⟨{back:=fun s hs=>(hb.sets s hs).set,in':=fun s hs=>(hi.sets s hs).set,ahead:=fun s hs=>(ha.sets s hs).set,out:=ho.1,calls:=hc.1,x:=hx,one:=h1,outs:=h2,noC:=h3,noX:=h4},
 {rows:=⟨hb.few,hi.few,ha.few⟩,sets:=⟨fun s hs=>(hb.sets s hs).few,fun s hs=>(hi.sets s hs).few,fun s hs=>(ha.sets s hs).few⟩,outs:=⟨ho.2,hc.2⟩}⟩
structure api (n:Nat)(l:Lookup):Prop where
 kind:1<=l.kind/\l.kind<=8
 rules:∀r∈l.rules,aob n l.kind r
 few:l.rules.length<=3
structure aoT (i:Nat)(g:anP):Prop where
 name:g.name=lN i
 right:OkG 2 g
 small:SmG g
theorem OkG.mono {n k:Nat}{g:anP}(h:OkG n g)(hk:n<=k):OkG k g:=
 have hp:∀p∈g.parts,In k p.anX/\N9 p.x/\N9 p.y:=fun p hp=>by
  have h1:=h.parts p hp;exact⟨⟨h1.1.1,by have:=h1.1.2;omega⟩,h1.2⟩
 {h with parts:=hp}
structure aph (f:Fnt):Prop where
 right:aoR f
 small:SmF f
theorem Ze {gs:List anP}(h:∀i g,gs[i]? =some g->aoT i g):gs.map (·.name)=(List.range gs.length).map lN:=by
 apply List.ext_getElem?;intro i;rw[aqO,aqO];by_cases hi:i<gs.length
 ·have e:=aqn hi;rw[e,List.getElem?_range hi];simp only[Option.map_some,aqM];exact(h i _ e).name
 rw[aqL (by omega),aqL (by rw[List.length_range];omega)];rfl
theorem aeh {f:Fnt}(hu:N9 f.unit)(ha:(∀a∈f.anR,nameB a.name=true/\N9 a.min'/\N9 a.aou/\N9 a.max')/\f.anR.length<=2)
  (hr:(∀r∈f.regions,(∀t∈r.anT,N9 t.start/\N9 t.peak/\N9 t.stop)/\r.anT.length<=2)/\f.regions.length<=3)
  (hc:(∀n∈f.cvt,N9 n)/\f.cvt.length<=3) (hf:(∀p∈f.funcs,mg p/\p.length<=60)/\f.funcs.length<=2)
  (hg:(∀i g,f.anL[i]? =some g->aoT i g)/\2<=f.anL.length/\f.anL.length<=10)
  (hch:(∀c∈f.chars,N9 c.rune/\In f.anL.length c.anX)/\f.chars.length<=16) (hl:(∀l∈f.anM,api f.anL.length l)/\f.anM.length<=6)
  (hft:(∀x∈f.features,(nameB x.name=true/\∀n∈x.anM,N9 n)/\x.anM.length<=6)/\f.features.length<=8):aph f:=by
 obtain⟨hg1,hg2,hg3⟩:=hg;have hgm:∀g∈f.anL,∃i,aoT i g:=fun g hg=>by
  obtain⟨i,hi⟩:=aqG.1 hg;exact⟨i,hg1 i g hi⟩
 refine⟨{unit:=hu,anR:=ha.1,regs:=fun r h=>(hr.1 r h).1,cvt:=hc.1,funcs:=fun p h=>(hf.1 p h).1,apart:= ?_,anL:=fun g h=> ?_,chars:=hch.1,anM:=fun l h=> ?_,an3:=fun x h=>(hft.1 x h).1,few:=by omega},{anL:=⟨hg3,fun g h=> ?_⟩,chars:=hch.2,anM:=⟨hl.2,fun l h=>⟨(hl.1 l h).few,fun r hr=>((hl.1 l h).rules r hr).small⟩⟩,an3:=⟨hft.2,fun x h=>(hft.1 x h).2⟩,anR:=ha.2,regs:=⟨hr.2,fun r h=>(hr.1 r h).2⟩,funcs:=⟨hf.2,fun p h=>(hf.1 p h).2⟩,cvt:=hc.2}⟩
 ·rw[Ze hg1];exact abZ ⟨f.anL.length,by omega⟩
 ·obtain⟨i,hi⟩:=hgm g h;exact hi.right.mono hg2
 ·have:=hl.1 l h;exact⟨this.kind.1,this.kind.2,fun r hr=>(this.rules r hr).right⟩
 obtain⟨i,hi⟩:=hgm g h;exact hi.small
theorem mG {α β:Type}{l:List α}{f g:α->List β}(h:∀x∈l,f x=g x):l.flatMap f=l.flatMap g:=by
 induction l with
 |nil=>rfl
 |cons a r ih=>rw[aqD,aqD,h a (by simp),ih (fun x hx=>h x (by simp[hx]))]
def dB (n:Int):B:=32::aN n
def oV (i:Ins):B:=32::tH i.op++(if i.a=0 then [] else 58::aN i.a)
theorem KL (l:List Ins):bM (l.map ku)=l.flatMap oV:=by rw[bM,List.flatMap_map];exact mG fun i _=>by simp[oV,ku]
def fU (gs:List anP)(n:Int):B:=32::iI gs n
def jC (gs:List anP)(s:List Int):B:=[32,91]++s.flatMap (fU gs)++[32,93]
theorem ZO (gs:List anP)(l:List (List Int)):bM (gZ gs l)=l.flatMap (jC gs):=by
 induction l with
 |nil=>rfl
 |cons a r ih=>
  have e:bM (gZ gs (a::r))=bM ([91]::a.map (iI gs)++[[93]])++bM (gZ gs r):=by simp[bM,gZ]
  rw[e,ih,aqD];congr 1
  simp only[bM,jC,aqT,aqD,aq4,List.flatMap_map,aqC,aqX,aqR,aqy];rfl
def qQ (p:Pt):B:=dB p.x++[44]++aN p.y++(if p.on then [] else [42])
def yh (c:List Pt):B:=iW++c.flatMap qQ++[10]
theorem ahS (c:List Pt):gY (OL c)=yh c:=by
 show iW++bM (c.map ry)++[10]=_;rw[yh,bM,List.flatMap_map];congr 2
 exact mG fun p _=>by simp[qQ,ry,dB]
def tq (gs:List anP)(p:Part):B:=pX++fU gs p.anX++dB p.x++dB p.y++[10]
theorem ahA (gs:List anP)(p:Part):gY (AO gs p)=tq gs p:=by simp[gY,AO,qi,bM,tq,fU,dB]
def sZ (a:an8):B:=kC++[32]++pick anchorNames a.kind++dB a.cls++dB a.x++dB a.y++[10]
theorem ahH (a:an8):gY (Bf a)=sZ a:=by simp[gY,Bf,qi,bM,sZ,dB]
def tC (d:Delta):B:=nC++dB d.region++dB d.point++dB d.x++dB d.y++[10]
theorem ahc (d:Delta):gY (Bi d)=tC d:=by simp[gY,Bi,qi,bM,tC,dB]
def hiS (h:List Ins):B:=sS++h.flatMap oV++[10]
theorem ahl (h:List Ins):gY (hiL h)=hiS h:=by rw[hiS,<-KL];rfl
def gyS (g:anP):B:=eQ++[32]++g.name++dB g.advance++(if g.mark then 32::kY else [])++[10]
theorem ahV (g:anP):gY (Gj g)=gyS g:=by unfold Gj gyS;split<;>simp[gY,qi,bM,dB]
def lu (gs:List anP)(g:anP):B:=gyS g++(dL g.points 0 g.ends).flatMap yh++g.parts.flatMap (tq gs)++g.anchors.flatMap sZ++g.deltas.flatMap tC++hiS g.hint
theorem agw (gs:List anP)(g:anP):(uS gs true g).flatMap gY=lu gs g:=by unfold uS lu;simp only[aqD,aqT,List.flatMap_map,Bool.true_or,if_true,aq4,aqR,ahV,ahS,ahA,ahH,ahc,ahl,aqy]
def Ws (gs:List anP)(kind:Int)(r:aom):B:=r.out.flatMap (fU gs)++r.calls.flatMap (fun c=>dB c.at'++[58]++aN c.lookup)++(if kind=6 then dB r.x else [])
theorem ahM {gs:List anP}{n:Nat}{kind:Int}{r:aom}(h:OkR n kind r)(hk:1<=kind/\kind<=8):bM (outW gs kind r)=Ws gs kind r:=by
 unfold outW Ws;by_cases h4:kind=4
 ·subst h4;rw[h.outs (.inl rfl)];rw[if_neg (by decide),if_pos rfl,if_neg (by decide),bM,List.flatMap_map];simp only[aq4,aqX,aqR];exact mG fun c _=>by simp[dB]
 rw[h.noC h4];by_cases h6:kind=6
 ·subst h6;rw[h.outs (.inr (by omega))];simp[bM,dB]
 rw[if_neg h6];by_cases h7:7<=kind
 ·rw[h.outs (.inr (by omega)),if_neg (by omega),if_neg h4,if_neg h6];rfl
 rw[if_pos (by omega),bM,List.flatMap_map];simp only[aq4,aqR,if_neg h6];rfl
def qV (gs:List anP)(kind:Int)(r:aom):B:=mF++r.back.flatMap (jC gs)++[32,47]++r.in'.flatMap (jC gs)++[32,47]++r.ahead.flatMap (jC gs)++[32,62]++Ws gs kind r++[10]
theorem abb (a b:List B):bM (a++b)=bM a++bM b:=by simp[bM]
theorem KJ (a:B)(b:List B):bM (a::b)=32::a++bM b:=by simp[bM]
theorem ah6 {gs:List anP}{n:Nat}{kind:Int}{r:aom}(h:OkR n kind r)(hk:1<=kind/\kind<=8):gY (mF::(gZ gs r.back++[47]::gZ gs r.in'++[47]::gZ gs r.ahead++[62]::outW gs kind r))=qV gs kind r:=by show mF++bM _++[10]=_;simp only[abb,KJ,ahM h hk,ZO,qV,aqy,aqC,aqX,List.singleton_append]
def Zr (l:Lookup):B:=lU++[32]++pick aS l.kind++(if l.aol then 32::iE else [])++[10]
theorem ahK (l:Lookup):gY (Gq l)=Zr l:=by unfold Gq Zr;split<;>simp[gY,qi,bM]
def uF (gs:List anP)(l:Lookup):B:=Zr l++l.rules.flatMap (qV gs l.kind)
theorem ahW {gs:List anP}{l:Lookup}(hk:1<=l.kind/\l.kind<=8)(h:∀r∈l.rules,OkR gs.length l.kind r):(BH gs (gZ gs) l).flatMap gY=uF gs l:=by
 unfold BH uF;rw[aqD,ahK,List.flatMap_map];congr 1
 exact mG fun r hr=>ah6 (h r hr) hk
def uZ (a:aoA):B:=sO++[32]++a.name++dB a.min'++dB a.aou++dB a.max'++[10]
def wK (t:aot):B:=dB t.start++dB t.peak++dB t.stop
def ve (r:Region):B:=kG++r.anT.flatMap wK++[10]
def vH (n:Int):B:=pz++dB n++[10]
def fnS (p:List Ins):B:=rY++p.flatMap oV++[10]
def vw (gs:List anP)(c:Chr):B:=rF++dB c.rune++fU gs c.anX++[10]
def uU (x:aon):B:=jo++[32]++x.name++x.anM.flatMap dB++[10]
theorem ahd (a:aoA):gY (xN a)=uZ a:=by simp[gY,xN,qi,bM,uZ,dB]
theorem ahr (r:Region):gY (Bh r)=ve r:=by
 show kG++bM (r.anT.flatMap AC)++[10]=_;rw[ve];congr 2
 rw[bM,List.flatMap_assoc];exact mG fun t _=>by simp[AC,wK,dB]
theorem aht (n:Int):gY [pz,aN n]=vH n:=by simp[gY,qi,bM,vH,dB]
theorem ahX (p:List Ins):gY (LY p)=fnS p:=by rw[fnS,<-KL];rfl
theorem ahw (gs:List anP)(c:Chr):gY (yf gs c)=vw gs c:=by simp[gY,yf,qi,bM,vw,dB,fU]
theorem ahL (x:aon):gY (Dn x)=uU x:=by show jo++bM (x.name::x.anM.map aN)++[10]=_;rw[uU,KJ,bM,List.flatMap_map];simp only[aqy,aqC,aqX];rfl
def Aw (f:Fnt):B:=oH++dB f.unit++[10]++f.anR.flatMap uZ++f.regions.flatMap ve++f.cvt.flatMap vH++f.funcs.flatMap fnS++f.anM.flatMap (uF f.anL)++f.anL.flatMap (lu f.anL)++f.chars.flatMap (vw f.anL)++f.features.flatMap uU
theorem xx {f:Fnt}(h:aoR f):DW f=Aw f:=by
 have e1:f.anM.flatMap (fun x=>(BH f.anL (gZ f.anL) x).flatMap gY)=f.anM.flatMap (uF f.anL):=mG fun l hl=>by
  obtain⟨h1,h2,h3⟩:=h.anM l hl;exact ahW ⟨h1,h2⟩ h3
 have e2:f.anL.flatMap (fun x=>(uS f.anL true x).flatMap gY)=f.anL.flatMap (lu f.anL):=mG fun g _=>agw _ g
 unfold DW qO Aw;simp only[aqT,List.flatMap_map,List.flatMap_assoc,e1,e2,ahd,ahr,aht,ahX,ahw,ahL,aqy];simp[gY,qi,bM,dB]
end
end Go.Proofs.YtkijckccfookeaaGreatDoor
