/- Lemmas. -/
import Derived.Test.YtkijckccfookeaaDoorX07
set_option linter.unusedVariables false
set_option linter.unusedSimpArgs false
namespace Go.Proofs.YtkijckccfookeaaDoor
open Go.RowKit
theorem jT {α β:Type}(l:List α)(f:α->List β)(k n:Nat)(h:∀x∈l,(f x).length<=k)(hl:l.length<=n):(l.flatMap f).length<=n*k:=by
 have:(l.flatMap f).length<=l.length*k:=by
  clear hl;induction l with
  |nil=>simp
  |cons a r ih=>rw[agV,la,aV,ahq];have:=h a (by simp);have:=ih (fun x hx=>h x (by simp[hx]));omega
 exact nt this (ahi k hl)
theorem qR (n:Int)(h:N9 n):(af n).length<=10:=by
 unfold N9 at h;unfold af Lib.itoa;split
 ·have:=(yB n.natAbs (by omega)).2;rw[aV];omega
 have:=(yB n.toNat (by omega)).2;omega
theorem iH {s:B}(h:nameB s=true):s.length<=16:=by rw[nameB,ag1,decide_eq_true_iff] at h;exact h.1.2
def W32 (l:List B):Prop:=∀w∈l,w.length<=32
theorem W32.nil:W32 []:=fun w h=>by simp at h
theorem W32.cons {w:B}{l:List B}(h:w.length<=32)(k:W32 l):W32 (w::l):=fun x hx=>by
 rw[agQ] at hx;rcases hx with rfl|hx
 ·exact h
 exact k x hx
theorem W32.app {a b:List B}(h:W32 a)(k:W32 b):W32 (a++b):=fun x hx=>by
 rw[agJ] at hx;rcases hx with hx|hx
 ·exact h x hx
 exact k x hx
theorem W32.map {α:Type}{l:List α}{f:α->B}(h:∀x∈l,(f x).length<=32):W32 (l.map f):=fun w hw=>by
 rw[ag7] at hw;obtain⟨x,hx,rfl⟩:=hw;exact h x hx
theorem W32.flat {α:Type}{l:List α}{f:α->List B}(h:∀x∈l,W32 (f x)):W32 (l.flatMap f):=fun w hw=>by
 rw[ahe] at hw;obtain⟨x,hx,hw⟩:=hw;exact h x hx w hw
theorem W32.it {l:List Int}(h:∀n∈l,N9 n):W32 (l.map af):=W32.map fun n hn=>nt (qR n (h n hn)) (by decide)
theorem QM (l:List B)(h:W32 l):(dN l).length<=33*l.length:=by have:(dN l).length<=l.length*33:=jT l _ 33 l.length (fun w hw=>by rw[aV];have:=h w hw;omega) (ai _);omega
def Lk (L:List (List B))(k:Nat):Prop:=(L.flatMap pM).length<=k
theorem Lk.line {l:List B}{n:Nat}(h:W32 l)(hl:l.length<=n):Lk [l] (33*n+1):=by
 unfold Lk;cases l with
 |nil=>simp[pM]
 |cons w r=>simp only[agV,ahj,ag8,pM,ax,la,aV,ln];have h1:=h w (by simp);have h2:=QM r (fun x hx=>h x (by simp[hx]));rw[aV] at hl;omega
theorem Lk.mono {L:List (List B)}{k n:Nat}(h:Lk L k)(hk:k<=n):Lk L n:=nt h hk
theorem Lk.nil (k:Nat):Lk [] k:=nz _
theorem Lk.app {a b:List (List B)}{k n:Nat}(h:Lk a k)(g:Lk b n):Lk (a++b) (k+n):=by
 unfold Lk at*
 rw[aha,la];omega
theorem Lk.cons {l:List B}{b:List (List B)}{k n:Nat}(h:Lk [l] k)(g:Lk b n):Lk (l::b) (k+n):=h.app g
theorem Lk.map {α:Type}{l:List α}{f:α->List B}{k n:Nat}(h:∀x∈l,Lk [f x] k)(hl:l.length<=n):Lk (l.map f) (n*k):=by
 unfold Lk at*
 rw[vz];exact jT l _ k n (fun x hx=>by have:=h x hx;simpa using this) hl
theorem Lk.flat {α:Type}{l:List α}{f:α->List (List B)}{k n:Nat}(h:∀x∈l,Lk (f x) k)(hl:l.length<=n):Lk (l.flatMap f) (n*k):=by
 unfold Lk at*
 rw[List.flatMap_assoc];exact jT l _ k n h hl
structure SmR (r:ae4):Prop where
 rows:r.back.length<=3/\r.in'.length<=3/\r.ahead.length<=3
 sets:(∀s∈r.back,s.length<=4)/\(∀s∈r.in',s.length<=4)/\∀s∈r.ahead,s.length<=4
 outs:r.out.length<=4/\r.calls.length<=2
structure SmG (g:aeS):Prop where
 pts:g.points.length<=12
 ends:g.ends.length<=2
 parts:g.parts.length<=1
 anch:g.anchors.length<=5
 ae3:g.deltas.length<=40
 hint:g.hint.length<=60
structure SmF (f:Fnt):Prop where
 aeN:f.aeN.length<=10/\∀g∈f.aeN,SmG g
 chars:f.chars.length<=16
 aeO:f.aeO.length<=6/\∀l∈f.aeO,l.rules.length<=3/\∀r∈l.rules,SmR r
 aeX:f.features.length<=8/\∀x∈f.features,x.aeO.length<=6
 aeP:f.aeP.length<=2
 regs:f.regions.length<=3/\∀r∈f.regions,r.ae0.length<=2
 funcs:f.funcs.length<=2/\∀p∈f.funcs,p.length<=60
 cvt:f.cvt.length<=3
theorem Yq:∀s∈opNames,s.length<=8:=by decide
theorem G7:∀s∈bF,s.length<=9:=by decide
theorem EO:∀s∈anchorNames,s.length<=9:=by decide
theorem ry (l:List B)(k:Nat)(h:∀s∈l,s.length<=k)(hk:1<=k)(n:Int):(pick l n).length<=k:=by
 unfold pick;split
 ·exact hk
 cases e:l[(n - 1).toNat]? with
 |none=>exact hk
 |some s=>exact h s (agM e)
theorem mg {gs:List aeS}(h:∀g∈gs,nameB g.name=true){n:Int}(hn:In gs.length n):(bM gs n).length<=32:=by obtain⟨h1,h2⟩:=hn;have e:gs[n.toNat]? =some (gs[n.toNat]'(by omega)):=agH (by omega);unfold bM;rw[if_neg (by omega),e];exact nt (iH (h _ (List.getElem_mem _))) (by decide)
theorem VI {i:Ins}(h:N9 i.a):(bW i).length<=32:=by
 have h1:=ry opNames 8 Yq (by decide) i.op;have h2:=qR i.a h;unfold bW jG;rw[la];split
 ·simp only[ln];omega
 rw[aV];omega
theorem PU {p:Pt}(h:N9 p.x/\N9 p.y):(iE p).length<=32:=by
 have h1:=qR p.x h.1;have h2:=qR p.y h.2;unfold iE;simp only[la,aV];split
 ·simp only[ln];omega
 simp only[aV,ln];omega
theorem Gy {c:Call}(h:N9 c.at'/\N9 c.lookup):(af c.at'++58::af c.lookup).length<=32:=by have h1:=qR c.at' h.1;have h2:=qR c.lookup h.2;simp only[la,aV];omega
theorem n32 {n:Int}(h:N9 n):(af n).length<=32:=nt (qR n h) (by decide)
theorem Oh {p:List Ins}(h:jr p):W32 (p.map bW):=W32.map fun i hi=>VI (h i hi).2.2
theorem JG {p:List Ins}(h:jr p)(hl:p.length<=60){a:B}(ha:a.length<=32):Lk [a::p.map bW] 2014:=Lk.line (n:=61) (.cons ha (Oh h)) (by rw[aV,agL];omega)
theorem EP (pts:List Pt)(es:List Int):∀fr,(dK pts fr es).length<=es.length/\∀c∈dK pts fr es,c.length<=pts.length/\∀p∈c,p∈pts:=by
 induction es with
 |nil=>intro fr;simp[dK]
 |cons e es ih=>
  intro fr;rw[dK];split
  ·simp
  obtain⟨h1,h2⟩:=ih (e.toNat+1);refine⟨by simp only[aV];omega,fun c hc=> ?_⟩;rw[agQ] at hc;rcases hc with rfl|hc
  ·refine⟨?_,fun p hp=>List.mem_of_mem_take (List.mem_of_mem_drop hp)⟩;rw[List.length_drop,agY];omega
  exact h2 c hc
theorem Ti {gs:List aeS}(hn:∀g∈gs,nameB g.name=true)(all:Bool){g:aeS}(h:OkG gs.length g)(hs:SmG g):Lk (nU gs all g) 10610:=by
 unfold nU;have e:10610=133+(2*430+(1*133+(5*166+(40*166+2014)))):=rfl;rw[e];obtain⟨c1,c2⟩:=EP g.points g.ends 0;refine .cons (Lk.line (n:=4) (.cons (by decide) (.cons (nt (iH h.name) (by decide)) (.cons (n32 h.adv) ?_))) ?_) (.app (.map (fun c hc=> ?_) (nt c1 hs.ends)) (.app (.map (fun p hp=> ?_) hs.parts) (.app (.map (fun a ha=> ?_) hs.anch) (.app (.map (fun d hd=> ?_) hs.ae3) ?_))))
 ·split
  ·exact .cons (by decide) .nil
  exact .nil
 ·unfold ET;simp only[aV];split<;>simp
 ·obtain⟨d1,d2⟩:=c2 c hc;exact Lk.line (n:=13) (.cons (by decide) (.map fun p hp=>PU (h.pts p (d2 p hp)))) (by unfold G9;rw[aV,agL];have:=hs.pts;omega)
 ·have:=h.parts p hp;exact Lk.line (n:=4) (.cons (by decide) (.cons (mg hn this.1) (.cons (n32 this.2.1) (.cons (n32 this.2.2) .nil)))) (by simp[wu])
 ·have:=h.anch a ha;exact Lk.line (n:=5) (.cons (by decide) (.cons (nt (ry _ 9 EO (by decide) _) (by decide)) (.cons (n32 this.2.2.1) (.cons (n32 this.2.2.2.1) (.cons (n32 this.2.2.2.2) .nil))))) (by simp[wQ])
 ·have:=h.ae3 d hd;exact Lk.line (n:=5) (.cons (by decide) (.cons (n32 this.1) (.cons (n32 this.2.1) (.cons (n32 this.2.2.1) (.cons (n32 this.2.2.2) .nil))))) (by simp[xU])
 split
 ·exact JG h.hint hs.hint (by decide)
 exact .nil _
theorem Zk {gs:List aeS}(hn:∀g∈gs,nameB g.name=true){ws:List (List Int)->List B}(hw:∀l,(∀s∈l,∀n∈s,In gs.length n)->(∀s∈l,s.length<=4)->l.length<=3->W32 (ws l)/\(ws l).length<=18){kind:Int}{r:ae4}(h:OkR gs.length kind r)(hs:SmR r):
  Lk [dC::(ws r.back++[47]::ws r.in'++[47]::ws r.ahead++[62]::outW gs kind r)] 2047:=by
 obtain⟨a1,a2⟩:=hw r.back (fun s hs=>(h.back s hs).2) hs.sets.1 hs.rows.1;obtain⟨b1,b2⟩:=hw r.in' (fun s hs=>(h.in' s hs).2) hs.sets.2.1 hs.rows.2.1;obtain⟨c1,c2⟩:=hw r.ahead (fun s hs=>(h.ahead s hs).2) hs.sets.2.2 hs.rows.2.2;have ho:W32 (outW gs kind r)/\(outW gs kind r).length<=4:=by
  unfold outW;split
  ·exact⟨.map fun n hn'=>mg hn (h.out n hn'),by rw[agL];exact hs.outs.1⟩
  split
  ·exact⟨.map fun c hc=>Gy (h.calls c hc),by rw[agL];have:=hs.outs.2;omega⟩
  split
  ·exact⟨.cons (n32 h.x) .nil,by simp⟩
  exact⟨.nil,by simp⟩
 refine Lk.line (n:=62) (.cons (by decide) ((((a1.app (.cons (by decide) b1)).app (.cons (by decide) c1))).app (.cons (by decide) ho.1))) ?_;simp only[aV,la];omega
theorem Ob {gs:List aeS}(hn:∀g∈gs,nameB g.name=true){ws:List (List Int)->List B}(hw:∀l,(∀s∈l,∀n∈s,In gs.length n)->(∀s∈l,s.length<=4)->l.length<=3->W32 (ws l)/\(ws l).length<=18){l:Lookup}
  (h:∀r∈l.rules,OkR gs.length l.kind r) (hs:l.rules.length<=3/\∀r∈l.rules,SmR r):Lk (uh gs ws l) 6241:=by
 unfold uh;have e:6241=100+3*2047:=rfl;rw[e];refine .cons (Lk.line (n:=3) (.cons (by decide) (.cons (nt (ry _ 9 G7 (by decide) _) (by decide)) ?_)) ?_) (.map (fun r hr=>Zk hn hw (h r hr) (hs.2 r hr)) hs.1)
 ·split
  ·exact .cons (by decide) .nil
  exact .nil
 unfold EQ;simp only[aV];split<;>simp
theorem UE {gs:List aeS}(hn:∀g∈gs,nameB g.name=true)(l:List (List Int))(h:∀s∈l,∀n∈s,In gs.length n)(h4:∀s∈l,s.length<=4)(h3:l.length<=3):W32 (bi gs l)/\(bi gs l).length<=18:=by
 unfold bi;refine⟨.flat fun s hs=> ?_,jT l _ 6 3 (fun s hs=> ?_) h3⟩
 ·unfold setW;split
  ·exact .cons (mg hn (h _ hs _ (by simp))) .nil
  exact(W32.cons (by decide) (.map fun n hn'=>mg hn (h s hs n hn'))).app (.cons (by decide) .nil)
 have:=h4 s hs;unfold setW;split
 ·simp
 simp only[agU,aV,la,agL,ln];omega
section
variable {f:Fnt} (h:afs f) (hs:SmF f)
include h in
theorem mr:∀g∈f.aeN,nameB g.name=true:=fun g hg=>(h.aeN g hg).name
include h hs in
theorem VJ:Lk (f.aeP.map su) 332:= .mono (.map (k:=166) (n:=2) (fun a ha=>by
 have:=h.aeP a ha;exact Lk.line (n:=5) (.cons (by decide) (.cons (nt (iH this.1) (by decide)) (.cons (n32 this.2.1) (.cons (n32 this.2.2.1) (.cons (n32 this.2.2.2) .nil))))) (by simp[su])) hs.aeP) (by decide)
include h hs in
theorem VL:Lk (f.regions.map ui) 696:= .mono (.map (k:=232) (n:=3) (fun r hr=>by
 have:=h.regs r hr;refine Lk.line (n:=7) (.cons (by decide) (.flat fun t ht=> .cons (n32 (this t ht).1) (.cons (n32 (this t ht).2.1) (.cons (n32 (this t ht).2.2) .nil)))) ?_;have:=jT r.ae0 iy 3 2 (fun t _=>by simp[iy]) (hs.regs.2 r hr);unfold ui;rw[aV];omega) hs.regs.1) (by decide)
include h hs in
theorem Tv:Lk (f.funcs.map Eb) 4028:= .mono (.map (k:=2014) (n:=2) (fun p hp=>JG (h.funcs p hp) (hs.funcs.2 p hp) (by decide)) hs.funcs.1) (by decide)
include h hs in
theorem OI (all:Bool):Lk (f.aeN.flatMap (nU f.aeN all)) 106100:= .mono (.flat (k:=10610) (n:=10) (fun g hg=>Ti (mr h) all (h.aeN g hg) (hs.aeN.2 g hg)) hs.aeN.1) (by decide)
include h hs in
theorem QO:Lk (f.chars.map (sD f.aeN)) 1600:= .mono (.map (k:=100) (n:=16) (fun c hc=>Lk.line (n:=3) (.cons (by decide) (.cons (n32 (h.chars c hc).1) (.cons (mg (mr h) (h.chars c hc).2) .nil))) (by simp[sD])) hs.chars) (by decide)
include h hs in
theorem Ru:Lk (f.features.map vX) 2120:= .mono (.map (k:=265) (n:=8) (fun x hx=>Lk.line (n:=8) (.cons (by decide) (.cons (nt (iH (h.aeX x hx).1) (by decide)) (.it (h.aeX x hx).2))) (by
 have:=hs.aeX.2 x hx;simp only[vX,aV,agL];omega)) hs.aeX.1) (by decide)
include h in
theorem Kq:Lk [[mG,af f.unit]] 67:=Lk.line (n:=2) (.cons (by decide) (.cons (n32 h.unit) .nil)) (by simp)
include h hs in
theorem RX:(gp f).length<=160000:=by
 have key:Lk (pF f) 160000:=by
  unfold pF;have hl:Lk (f.aeO.flatMap (uh f.aeN (bi f.aeN))) 37446:= .mono (.flat (k:=6241) (n:=6) (fun l hl=>Ob (mr h) (UE (mr h)) (h.aeO l hl).2.2 (hs.aeO.2 l hl)) hs.aeO.1) (by decide);have hc:Lk (if f.cvt.isEmpty then [] else [lY::f.cvt.map af]) 133:=by
   split
   ·exact .nil _
   exact Lk.line (n:=4) (.cons (by decide) (.it h.cvt)) (by have:=hs.cvt;simp only[aV,agL];omega)
  exact .mono ((Kq h).app ((VJ h hs).app ((VL h hs).app (hc.app ((Tv h hs).app ((OI h hs false).app ((QO h hs).app (hl.app (Ru h hs))))))))) (by decide)
 rw[<-vI];exact key
end
end Go.Proofs.YtkijckccfookeaaDoor
