/- fleuronref07: digits, yes. -/
import Derived.Test.YtkijckccfookeaaDoorCap
import Derived.Test.YtkijckccfookeaaDoorW09
import Derived.Deep.Cut
set_option linter.unusedVariables false
set_option linter.unusedSimpArgs false
set_option maxRecDepth 100000
set_option maxHeartbeats 32000000
namespace Go.Proofs.YtkijckccfookeaaDoor
section
open Go.RowKit
def Lw (w:World):Bs:=fun b=>b<w.heap.size
theorem Sl.lw {α:Type}{R:ZL α}(ok:R.Ok){size:Nat}{w w':World}{A:Option Addr}{xs:List α}(h:Sl R size w (Lw w) A xs)(hb:Below w.heap.size w w'):Sl R size w' (Lw w') A xs:=(h.keep ok (fun b hb'=>hb.block b hb')).mono ok (fun b (hb':b<_)=>aa9 hb' hb.size)
end
section
open Go.RowKit Go.Sort
theorem IA (ws:List B):ws.length<=(bK ws).length:=by
 induction ws with
 |nil=>simp
 |cons a l ih=>
  have e:bK (a::l)=32::a++bK l:=by simp[bK]
  rw[e];simp;omega
theorem fE (f:B)(ws:List B):ws.length+1<=(ai f ws).length:=by have:=IA ws;simp only[ai,la,lc,ln];omega
theorem G5 (gs:List Zy)(l:List Int):1<=(setW gs l).length:=by
 by_cases h:l.length=1
 ·match l,h with
  |[n],_=>simp[setW]
 rw[wP gs l h];simp
theorem sH (gs:List Zy)(l:List (List Int)):l.length<=(aQ gs l).length:=by
 induction l with
 |nil=>simp
 |cons a l ih=>
  have h1:=G5 gs a;have e:aQ gs (a::l)=setW gs a++aQ gs l:=by simp[aQ]
  rw[e,la,lc];omega
theorem AQ (w:World)(Bd g:Nat)(fc:Nat->Value)(txt:B)(gs:List Zy)(kind:Int)(A0 B1 B2 B3 B4:Option Addr)(c0 d1 d2 d3 d4:Nat)(r:Z8)
  (hT:Tabs w) (hP:PN w g gs) (hgl:gs.length<=1000000000000) (hp:Pr w Bd g fc txt) (hBd:Bd<=w.heap.size)
  (h0:Sl Zw 1 w (FT w) A0 r.back) (h1:Sl Zw 1 w (FT w) B1 r.in') (h2:Sl Zw 1 w (FT w) B2 r.ahead) (h3:Sl Zx 1 w (FT w) B3 r.out) (h4:Sl ZZ 2 w (FT w) B4 r.calls) (hx:I64 r.x)
  (hlen:txt.length+(gK gs kind r).length<=10000000000):
  Calls Tryd.prog 49 #[.pointer (some ⟨g,0,none⟩),.int .i64 kind,.agg #[.slice A0 r.back.length c0,.slice B1 r.in'.length d1,.slice B2 r.ahead.length d2,.slice B3 r.out.length d3,.slice B4 r.calls.length d4,.int .i64 r.x]] w
   fun e w'=>e= .returned (.tuple #[])/\Pr w' Bd g fc (txt++gK gs kind r)/\KP w w'/\Below Bd w w':=by
 have hw:=fE bn (nP gs kind r);have hrl:txt.length+(ai bn (nP gs kind r)).length<=10000000000:=hlen;have e:∀so,outW gs kind r=so->nP gs kind r=aQ gs r.back++[[47]]++aQ gs r.in'++[[47]]++aQ gs r.ahead++[[62]]++so:=by intro so h;simp[nP,h]
 have oV:∀so,outW gs kind r=so->(aQ gs r.back).length+(aQ gs r.in').length+(aQ gs r.ahead).length+so.length+3<=10000000000:=by intro so h;have:=congrArg List.length (e so h);simp only[la,lc,ln] at this;omega
 have hHL:∀so,outW gs kind r=so->txt.length+(ai bn (aQ gs r.back++[[47]]++aQ gs r.in'++[[47]]++aQ gs r.ahead++[[62]]++so)).length<=1000000000000/\(aQ gs r.back++[[47]]++aQ gs r.in'++[[47]]++aQ gs r.ahead++[[62]]++so).length<=1000000000000:=by intro so h;rw[<-e so h];exact⟨by omega,by omega⟩
 have g0:=sH gs r.back;have g1:=sH gs r.in';have g2:=sH gs r.ahead;have hl0:=oV _ rfl;have S0:Hid (∀w',Below w.heap.size w w'->Calls Tryd.prog 71 #[.pointer (some ⟨g,0,none⟩),.slice A0 r.back.length c0] w' (bY w' (aQ gs r.back))):=fun w' hb=>rU w' g gs A0 c0 r.back (hT.all hb) (hP.below hb) hgl ((KP.below hb).sl Zw.ok h0) (by omega) (by omega)
 have S1:Hid (∀w',Below w.heap.size w w'->Calls Tryd.prog 71 #[.pointer (some ⟨g,0,none⟩),.slice B1 r.in'.length d1] w' (bY w' (aQ gs r.in'))):=fun w' hb=>rU w' g gs B1 d1 r.in' (hT.all hb) (hP.below hb) hgl ((KP.below hb).sl Zw.ok h1) (by omega) (by omega)
 have S2:Hid (∀w',Below w.heap.size w w'->Calls Tryd.prog 71 #[.pointer (some ⟨g,0,none⟩),.slice B2 r.ahead.length d2] w' (bY w' (aQ gs r.ahead))):=fun w' hb=>rU w' g gs B2 d2 r.ahead (hT.all hb) (hP.below hb) hgl ((KP.below hb).sl Zw.ok h2) (by omega) (by omega)
 have S3:r.out.length<=10000000000->Hid (∀w',Below w.heap.size w w'->Calls Tryd.prog 72 #[.pointer (some ⟨g,0,none⟩),.slice B3 r.out.length d3] w' (bY w' (r.out.map (aT gs)))):=fun ho w' hb=>zH w' g gs B3 d3 r.out (hT.all hb) (hP.below hb) hgl ((KP.below hb).sl Zx.ok h3) (by omega)
 show Calls _ _ _ _ fun e w'=>e= .returned (.tuple #[])/\Pr w' Bd g fc (txt++ai bn (nP gs kind r))/\KP w w'/\Below Bd w w'
 by_cases k1:kind=1
 ·subst k1;have hs:outW gs 1 r=r.out.map (aT gs):=by simp[outW]
  exact O1 w Bd g fc txt A0 B1 B2 B3 B4 c0 d1 d2 d3 d4 r.back r.in' r.ahead r.out r.calls r.x _ _ _ _ hp hBd S0 S1 S2 (oV _ hs) (S3 (by have:=oV _ hs;rw[aa7] at this;omega)) _ (e _ hs) (hHL _ hs)
 by_cases k2:kind=2
 ·subst k2;have hs:outW gs 2 r=r.out.map (aT gs):=by simp[outW]
  exact L9 w Bd g fc txt A0 B1 B2 B3 B4 c0 d1 d2 d3 d4 r.back r.in' r.ahead r.out r.calls r.x _ _ _ _ hp hBd S0 S1 S2 (oV _ hs) (S3 (by have:=oV _ hs;rw[aa7] at this;omega)) _ (e _ hs) (hHL _ hs)
 by_cases k3:kind=3
 ·subst k3;have hs:outW gs 3 r=r.out.map (aT gs):=by simp[outW]
  exact Oe w Bd g fc txt A0 B1 B2 B3 B4 c0 d1 d2 d3 d4 r.back r.in' r.ahead r.out r.calls r.x _ _ _ _ hp hBd S0 S1 S2 (oV _ hs) (S3 (by have:=oV _ hs;rw[aa7] at this;omega)) _ (e _ hs) (hHL _ hs)
 by_cases k5:kind=5
 ·subst k5;have hs:outW gs 5 r=r.out.map (aT gs):=by simp[outW]
  exact Qm w Bd g fc txt A0 B1 B2 B3 B4 c0 d1 d2 d3 d4 r.back r.in' r.ahead r.out r.calls r.x _ _ _ _ hp hBd S0 S1 S2 (oV _ hs) (S3 (by have:=oV _ hs;rw[aa7] at this;omega)) _ (e _ hs) (hHL _ hs)
 by_cases k4:kind=4
 ·subst k4;have hs:outW gs 4 r=r.calls.map (fun c=>af c.at'++58::af c.lookup):=by simp[outW]
  exact OQ w Bd g fc txt A0 B1 B2 B3 B4 c0 d1 d2 d3 d4 r.back r.in' r.ahead r.out r.calls r.x _ _ _ _ hp hBd S0 S1 S2 (oV _ hs) hT h4 (by simp) rfl _ (e _ hs) (hHL _ hs)
 by_cases k6:kind=6
 ·subst k6;have hs:outW gs 6 r=[af r.x]:=by simp[outW]
  exact NE w Bd g fc txt A0 B1 B2 B3 B4 c0 d1 d2 d3 d4 r.back r.in' r.ahead r.out r.calls r.x _ _ _ _ hp hBd S0 S1 S2 (oV _ hs) (af r.x) (fun w' hb=>aA w' r.x (hT.all hb) hx) _ (e _ hs) (hHL _ hs)
 have hs:outW gs kind r=[]:=by simp[outW,k1,k2,k3,k4,k5,k6]
 have e':=e _ hs;have hh:=hHL _ hs;rw[abw] at e' hh;exact ED w Bd g fc txt A0 B1 B2 B3 B4 c0 d1 d2 d3 d4 r.back r.in' r.ahead r.out r.calls r.x _ _ _ [] hp hBd S0 S1 S2 (oV _ hs) kind (by simpa using k1) (by simpa using k2) (by simpa using k3) (by simpa using k4) (by simpa using k5) (by simpa using k6) _ e' hh
theorem fG (w1:World)(hsz m:Nat)(hh:w1.heap.size=hsz)(Bd g:Nat)(fc:Nat->Value)(txt first:B)(us:List B)(hm:us.length=m)(h:Pr w1 Bd g fc txt)(hlen:txt.length+(ai first us).length<=10000000000):
  Calls Tryd.prog 20 #[.pointer (some ⟨g,0,none⟩),.string ⟨first.toArray⟩,.slice (some ⟨hsz,0,none⟩) m m] (w1.alloc (.cells (strs us).toArray 9)) fun e w'=>e= .returned (.tuple #[])/\Pr w' Bd g fc (txt++ai first us)/\KP w1 w'/\Below Bd w1 w':=by
 subst hh;subst hm;have hw:=fE first us
 have hlt:=h.lt;have hb:Below w1.heap.size w1 (w1.alloc (.cells (strs us).toArray 9)):=(aa0 _ _).alloc (ag _) _;have hs:Sl aaw 1 (w1.alloc (.cells (strs us).toArray 9)) (FT (w1.alloc (.cells (strs us).toArray 9))) (some ⟨w1.heap.size,0,none⟩) us:=by refine⟨strs us,Bq _ _ _,fun _=>⟨w1.heap.size,0,rfl,tN (Bk.new w1 9 (strs us).toArray) (by decide) (by decide),fun j u hu=> ?_⟩⟩;rw[Bk.cell (Bk.new w1 9 (strs us).toArray)];simpa using hu
 refine(qK _ Bd g fc txt first _ us.length us (h.below hb) hs (by omega) (by omega)).mono ?_;rintro e w' ⟨he,hp,hk,hb'⟩;exact⟨he,hp,(KP.below hb).trans hk,(hb.mono (by omega)).trans hb'⟩
theorem xy {α:Type}(f:α->B)(l:List α)(k:Nat):((l.take k).flatMap f).length<=(l.flatMap f).length:=by
 conv=>rhs;rw[<-abx k l]
 simp only[aby,la];omega
theorem aH {α:Type}(f:α->B)(l:List α)(k:Nat)(x:α)(h:l[k]? =some x):((l.take k).flatMap f).length+(f x).length<=(l.flatMap f).length:=by have:=xy f l (k+1);rw[aN f l k x h,la] at this;exact this
theorem PN.kp {w w':World}{Bd g:Nat}{fc:Nat->Value}{gs:List Zy}{txt txt':B}(h:PN w g gs)(hp:Pr w Bd g fc txt)(hp':Pr w' Bd g fc txt')(hk:KP w w'):PN w' g gs:=by obtain⟨A,c,h1,h2⟩:=h;obtain⟨ad,v,-,q,-⟩:=hp;obtain⟨ad',v',-,q',-⟩:=hp';have e1:w.cell? ⟨g,1,none⟩=some (fc 1):=Bk.cell q 1;have e2:w'.cell? ⟨g,1,none⟩=some (fc 1):=Bk.cell q' 1;exact⟨A,c,by rw[e2,<-e1,h1],hk.sl ZK.ok h2⟩
theorem Gs (w:World)(Bd g:Nat)(fc:Nat->Value)(txt:B)(gs:List Zy)(A:Option Addr)(c:Nat)(l:Lookup)(hT:Tabs w)(hG:nG<=Bd)(hP:PN w g gs)(hgl:gs.length<=1000000000000)(hp:Pr w Bd g fc txt)(hBd:Bd<=w.heap.size)
  (hA:Sl ZP 6 w (FT w) A l.rules) (hrl:l.rules.length<=10000000000) (hlen:txt.length+(bf gs l).length<=10000000000):
  Calls Tryd.prog 27 #[.pointer (some ⟨g,0,none⟩),.agg #[.int .i64 l.kind,.bool l.aae,.slice A l.rules.length c]] w
   fun e w'=>e= .returned (.tuple #[])/\Pr w' Bd g fc (txt++bf gs l)/\KP w w'/\Below Bd w w':=by
 obtain⟨kind,Gz,rules⟩:=l;dsimp only at hA hrl ⊢;obtain⟨T0,hT0⟩:∃T0,ai dB (pick aK kind::if Gz then [iK] else [])=T0:=⟨_,rfl⟩
 have hlen2:txt.length+T0.length+(rules.flatMap (gK gs kind)).length<=10000000000:=by unfold bf at hlen;dsimp only at hlen;rw[hT0,la] at hlen;omega
 have HE:Hid (bf gs ⟨kind,Gz,rules⟩=T0++rules.flatMap (gK gs kind)):=by rw[<-hT0];rfl
 clear hlen;have HT0:=hd0 hT0;clear hT0;have hb0:Below w.heap.size w (w.alloc (.cells #[.int .i64 kind,.bool Gz,.slice A rules.length c] 60)):=(aa0 _ _).alloc (ag _) _;have hT1:=hT.all hb0;have hp1:=hp.below hb0;have hk0:=hd0 (Bk.new w 60 #[.int .i64 kind,.bool Gz,.slice A rules.length c]);have Hb0:=hd0 hb0;have hpl:=hp.lt;clear hb0;go_enter Tryd.func27,Tryd.ntmps27
 cases Gz with
 |true=>
  have HT1:Hid (ai dB [pick aK kind,iK]=T0):=hd0 (by have:=HT0.out;simpa using this);have hll:txt.length+(ai dB [pick aK kind,iK]).length<=10000000000:=by rw[HT1.out];omega
  go_wp2_with (first
   |(go_at_call 48;refine(oP _ kind hT1).mono ?_;rintro e w' ⟨rfl,rfl⟩)
   |(go_at_call 20;refine(fG _ (w.heap.size+1) 2 (World.size_alloc _ _) Bd g fc txt dB [pick aK kind,iK] rfl hp1 hll).mono ?_;rintro e w1 ⟨rfl,hp2,hk2,hb2⟩;have q2:w1.cell? ⟨w.heap.size,2,none⟩=some (.slice A rules.length c):=Bk.cell (hk2.bk hk0.out (by decide) (by decide)) 2))
  go_loopw [23] (fun i wr=>∃k:Nat,k<=rules.length/\i= .int .i64 k/\Pr wr Bd g fc (txt++T0++(rules.take k).flatMap (gK gs kind))/\KP (w.alloc (.cells #[.int .i64 kind,.bool true,.slice A rules.length c] 60)) wr/\Below Bd w wr) (fun i _=>rules.length - (intOf i).toNat)
  case atStart=>exact⟨0,nz _,rfl,by rw[<-HT1.out];simpa using hp2,hk2,(Hb0.out.mono hBd).trans hb2⟩
  case round=>
   obtain⟨k,hk,rfl,hpr,hkp,hbl⟩:=hrel;have q0:wr.cell? ⟨w.heap.size,0,none⟩=some (.int .i64 kind):=Bk.cell (hkp.bk hk0.out (by decide) (by decide)) 0;have zr:w.heap.size<wr.heap.size:=World.block_lt_of_cell? _ _ q0;clear q2;by_cases hlt:k<rules.length
   ·obtain⟨b,o,x,E0,e0,E1,e1,E2,e2,E3,e3,E4,e4,rfl,-,hx,p0,p1,p2,p3,p4,p5,r5,j0,j1,j2,j3,j4⟩:=(hkp.sl ZP.ok ((KP.below Hb0.out).sl ZP.ok hA)).rule hlt;have hsn:=hd0 (aN (gK gs kind) rules k x hx.out);have hle:=aH (gK gs kind) rules k x hx.out;have hba:Below wr.heap.size wr (wr.alloc (.cells #[.slice E0 x.back.length e0,.slice E1 x.in'.length e1,.slice E2 x.ahead.length e2,.slice E3 x.out.length e3,.slice E4 x.calls.length e4,.int .i64 x.x] 78)):=(aa0 _ _).alloc (ag _) _;have hka:=KP.below hba;have hP0:PN wr g gs:=(hP.below Hb0.out).kp hp1 hpr hkp;have hR:=hd0 (AQ _ Bd g fc _ gs kind E0 E1 E2 E3 E4 e0 e1 e2 e3 e4 x ((hT.below hbl hG).all hba) (hP0.below hba) hgl (hpr.below hba) (nt hpl.1 (nt (abH (aa9 hpl.2 (abH zr))) hba.size)) (hka.sl Zw.ok j0) (hka.sl Zw.ok j1) (hka.sl Zw.ok j2) (hka.sl Zx.ok j3) (hka.sl ZZ.ok j4) r5 (by simp only[la];omega));have uw:=hd0 hka;have ul:=hd0 hba;clear hx r5 j0 j1 j2 j3 j4 hle hka hba hP0;go_wp2_with (go_at_call 49;refine hR.out.mono ?_;rintro e w3 ⟨rfl,hp3,hk3,hb3⟩)
    go_roundw
    case rel=>exact⟨k+1,by omega,by simp,by rw[hsn.out,<-abe];exact hp3,hkp.trans (uw.out.trans hk3),hbl.trans ((ul.out.mono (by omega)).trans hb3)⟩
    case measure=>simp[intOf];omega
   obtain rfl:k=rules.length:=by omega
   rw[aa6] at hpr;go_wp2
   go_end0
   refine⟨rfl,?_,(KP.below Hb0.out).trans hkp,hbl⟩;rw[HE.out,<-abe];exact hpr
 |false=>
  have HT1:Hid (ai dB [pick aK kind]=T0):=hd0 (by have:=HT0.out;simpa using this);have hll:txt.length+(ai dB [pick aK kind]).length<=10000000000:=by rw[HT1.out];omega
  go_wp2_with (first
   |(go_at_call 48;refine(oP _ kind hT1).mono ?_;rintro e w' ⟨rfl,rfl⟩)
   |(go_at_call 20;refine(fG _ (w.heap.size+1) 1 (World.size_alloc _ _) Bd g fc txt dB [pick aK kind] rfl hp1 hll).mono ?_;rintro e w1 ⟨rfl,hp2,hk2,hb2⟩;have q2:w1.cell? ⟨w.heap.size,2,none⟩=some (.slice A rules.length c):=Bk.cell (hk2.bk hk0.out (by decide) (by decide)) 2))
  go_loopw [23] (fun i wr=>∃k:Nat,k<=rules.length/\i= .int .i64 k/\Pr wr Bd g fc (txt++T0++(rules.take k).flatMap (gK gs kind))/\KP (w.alloc (.cells #[.int .i64 kind,.bool false,.slice A rules.length c] 60)) wr/\Below Bd w wr) (fun i _=>rules.length - (intOf i).toNat)
  case atStart=>exact⟨0,nz _,rfl,by rw[<-HT1.out];simpa using hp2,hk2,(Hb0.out.mono hBd).trans hb2⟩
  case round=>
   obtain⟨k,hk,rfl,hpr,hkp,hbl⟩:=hrel;have q0:wr.cell? ⟨w.heap.size,0,none⟩=some (.int .i64 kind):=Bk.cell (hkp.bk hk0.out (by decide) (by decide)) 0;have zr:w.heap.size<wr.heap.size:=World.block_lt_of_cell? _ _ q0;clear q2;by_cases hlt:k<rules.length
   ·obtain⟨b,o,x,E0,e0,E1,e1,E2,e2,E3,e3,E4,e4,rfl,-,hx,p0,p1,p2,p3,p4,p5,r5,j0,j1,j2,j3,j4⟩:=(hkp.sl ZP.ok ((KP.below Hb0.out).sl ZP.ok hA)).rule hlt;have hsn:=hd0 (aN (gK gs kind) rules k x hx.out);have hle:=aH (gK gs kind) rules k x hx.out;have hba:Below wr.heap.size wr (wr.alloc (.cells #[.slice E0 x.back.length e0,.slice E1 x.in'.length e1,.slice E2 x.ahead.length e2,.slice E3 x.out.length e3,.slice E4 x.calls.length e4,.int .i64 x.x] 78)):=(aa0 _ _).alloc (ag _) _;have hka:=KP.below hba;have hP0:PN wr g gs:=(hP.below Hb0.out).kp hp1 hpr hkp;have hR:=hd0 (AQ _ Bd g fc _ gs kind E0 E1 E2 E3 E4 e0 e1 e2 e3 e4 x ((hT.below hbl hG).all hba) (hP0.below hba) hgl (hpr.below hba) (nt hpl.1 (nt (abH (aa9 hpl.2 (abH zr))) hba.size)) (hka.sl Zw.ok j0) (hka.sl Zw.ok j1) (hka.sl Zw.ok j2) (hka.sl Zx.ok j3) (hka.sl ZZ.ok j4) r5 (by simp only[la];omega));have uw:=hd0 hka;have ul:=hd0 hba;clear hx r5 j0 j1 j2 j3 j4 hle hka hba hP0;go_wp2_with (go_at_call 49;refine hR.out.mono ?_;rintro e w3 ⟨rfl,hp3,hk3,hb3⟩)
    go_roundw
    case rel=>exact⟨k+1,by omega,by simp,by rw[hsn.out,<-abe];exact hp3,hkp.trans (uw.out.trans hk3),hbl.trans ((ul.out.mono (by omega)).trans hb3)⟩
    case measure=>simp[intOf];omega
   obtain rfl:k=rules.length:=by omega
   rw[aa6] at hpr;go_wp2
   go_end0
   refine⟨rfl,?_,(KP.below Hb0.out).trans hkp,hbl⟩;rw[HE.out,<-abe];exact hpr
end
end Go.Proofs.YtkijckccfookeaaDoor
