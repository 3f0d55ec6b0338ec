/- Lemmas. -/
import Derived.Test.YtkijckccfookeaaDoorX13
set_option linter.unusedVariables false
set_option linter.unusedSimpArgs false
set_option maxRecDepth 100000
set_option maxHeartbeats 32000000
namespace Go.Proofs.YtkijckccfookeaaDoor
open Go.RowKit
theorem DY (p:Call):1<=(fZ p).length:=by have:=dL p.at';unfold fZ;rw[la];omega
theorem Ee (r:ae4):1<=(fG r).length:=by have:=dL r.x;unfold fG;simp only[la];omega
theorem MM (w:World)(g:Lookup)(A2:Option Addr)(d2:Nat)(i0:I64 g.kind)(h2:Sl ae8 6 w (Lw w) A2 g.rules)(hlen:(dZ g).length<=100000000000000):
  Calls Tryd.prog 52 #[.agg #[.int .i64 g.kind,.bool g.afh,.slice A2 g.rules.length d2]] w fun e w'=>e= .returned (.string ⟨(dZ g).toArray⟩)/\Below w.heap.size w w':=by
 obtain⟨kind,ut,rules⟩:=g;have hgl:dZ ⟨kind,ut,rules⟩=ah kind++oN ut++ah (rules.length:Int)++rules.flatMap fG:=by simp[dZ,IC]
 rw[hgl] at hlen ⊢;clear hgl;simp only[la] at hlen;simp only at i0 h2 ⊢;have n2:I64 (rules.length:Int):=jy fG Ee rules (by omega);have ln2:rules.length<=100000000000000:=nt (dM fG Ee rules) (by omega);have H2:=hd0 h2;have HD0:=hd0 (fun w'=>aA w' _ i0);have HD1:=hd0 (fun w'=>aA w' _ n2);have HY:=hd0 (fun w'=>IJ w' ut);clear h2 i0 n2;generalize ah kind=D0 at*
 generalize oN ut=Y at*
 generalize ah (rules.length:Int)=D1 at*
 go_enter Tryd.func52,Tryd.ntmps52
 go_wp2_with fail
 obtain⟨W0,hW0⟩:∃W0,w.alloc (.cells #[.int .i64 kind,.bool ut,.slice A2 rules.length d2] 60)=W0:=⟨_,rfl⟩
 rw[hW0];have HW:Hid (Below w.heap.size w W0):=by rw[<-hW0];exact hd0 ((agE _ _).alloc (ai _) _)
 have HK:Hid (Bk W0 w.heap.size 60 #[.int .i64 kind,.bool ut,.slice A2 rules.length d2]):=by rw[<-hW0];exact hd0 (Bk.new _ _ _)
 have z0:w.heap.size<W0.heap.size:=HK.out.lt;clear hW0;replace H2:=hd0 (H2.out.lw ae8.ok HW.out);have x0:∀xw:WIn (fun v=>Below W0.heap.size W0 v),xw.w.cell? ⟨w.heap.size,0,none⟩=some (.int .i64 kind):=ag (HK.out.cell 0);have x1:∀xw:WIn (fun v=>Below W0.heap.size W0 v),xw.w.cell? ⟨w.heap.size,1,none⟩=some (.bool ut):=ag (HK.out.cell 1);have x2:∀xw:WIn (fun v=>Below W0.heap.size W0 v),xw.w.cell? ⟨w.heap.size,2,none⟩=some (.slice A2 rules.length d2):=ag (HK.out.cell 2);have aa1:∀w',(Op.stringOp .add ⟨D0.toArray⟩ ⟨Y.toArray⟩).run Tryd.prog w'= .ok (.string ⟨(D0++Y).toArray⟩) w':=bf D0 Y (by omega);have adl:(D0++Y).length<=D0.length+Y.length:=aW _ _;generalize hS49:D0++Y=S49 at*
 have aaX:=hd0 hS49.symm;clear hS49;have abW:∀w',(Op.stringOp .add ⟨S49.toArray⟩ ⟨D1.toArray⟩).run Tryd.prog w'= .ok (.string ⟨(S49++D1).toArray⟩) w':=bf S49 D1 (by omega);have adw:(S49++D1).length<=S49.length+D1.length:=aW _ _;generalize hS50:S49++D1=S50 at*
 have abP:=hd0 hS50.symm;clear hS50;have xC:=hd0 (aC (W:=W0) (fun w' _=>HD0.out w'));have xX:=hd0 (aC (W:=W0) (fun w' _=>HD1.out w'));have PO:=hd0 (aC (W:=W0) (fun w' _=>HY.out w'));refine bT (fun v=>Below W0.heap.size W0 v) (by kernel_rfl) (by kernel_rfl) ((agE W0.heap.size W0).drew) ?_;have aQ:Nonempty (WIn (fun v=>Below W0.heap.size W0 v)):=⟨⟨_,((agE W0.heap.size W0).drew)⟩⟩
 repeat(go_big_quiet_step (first|with_reducible exact xC.out _|with_reducible exact xX.out _|with_reducible exact PO.out _))
 refine wpQuiet_nil ?_;intro _ hw';obtain⟨xq,hw''⟩:=hw';subst hw'';have Pv:Hid (Below W0.heap.size W0 xq.w):=hd0 xq.ok;generalize xq.w=wa at*
 clear x0 x1 x2 xC xX PO aQ aa1 abW;go_wp2_with fail
 go_loopw [3,4] (fun s i wr=>∃k:Nat,k<=rules.length/\i= .int .i64 k/\s= .string ⟨(S50++(rules.take k).flatMap fG).toArray⟩/\Below W0.heap.size W0 wr) (fun _ i _=>rules.length - (intOf i).toNat)
 case atStart=>exact⟨0,nz _,rfl,by simp,Pv.out⟩
 case round=>
  obtain⟨nN,rfl⟩:∃x,x=wr:=⟨_,rfl⟩
  obtain⟨k,hk,rfl,rfl,hb⟩:=hrel;have HX:=hd0 hb;have c2:nN.cell? ⟨w.heap.size,2,none⟩=some (.slice A2 rules.length d2):=((aP HX.out).1 _ _ z0).trans (HK.out.cell 2);by_cases hlt:k<rules.length
  ·
   obtain⟨b,o,x,B0,e0,B1,e1,B2,e2,B3,e3,B4,e4,rfl,-,hx,q0,q1,q2,q3,q4,q5,i5,h0,h1,h2,h3,h4⟩:=(H2.out.lw ae8.ok hb).rule hlt;have hsn:Hid (S50++(rules.take (k+1)).flatMap fG=S50++(rules.take k).flatMap fG++jd x.back++jd x.in'++jd x.ahead++rowB x.out++ah (x.calls.length:Int)++x.calls.flatMap fZ++ah x.x):=by show _=_;rw[dB hx.out];simp[fG,Bo]
   have hf:=eX (f:=fG) hx.out;simp only[fG,Bo,la,aV,ln] at hf;have hs0:(S50++(rules.take k).flatMap fG).length<=S50.length+((rules.take k).flatMap fG).length:=aW _ _;have n4:I64 (x.calls.length:Int):=jy fZ DY x.calls (by omega);have ln4:x.calls.length<=100000000000000:=nt (dM fZ DY x.calls) (by omega);have HL0:=hd0 (show(jd x.back).length<=100000000000000 by omega);have HL1:=hd0 (show(jd x.in').length<=100000000000000 by omega);have HL2:=hd0 (show(jd x.ahead).length<=100000000000000 by omega);have qI:=hd0 (show(rowB x.out).length<=100000000000000 by omega);clear hx;go_wp2_with fail
   obtain⟨W2,hW2⟩:∃W2,nN.alloc (.cells #[.slice B0 x.back.length e0,.slice B1 x.in'.length e1,.slice B2 x.ahead.length e2,.slice B3 x.out.length e3,.slice B4 x.calls.length e4,.int .i64 x.x] 78)=W2:=⟨_,rfl⟩
   rw[hW2];have KE:Hid (Below nN.heap.size nN W2):=by rw[<-hW2];exact hd0 ((agE _ _).alloc (ai _) _)
   have HW2:Hid (Below W0.heap.size W0 W2):=hd0 (HX.out.trans (KE.out.mono HX.out.size));have qU:Hid (Bk W2 nN.heap.size 78 #[.slice B0 x.back.length e0,.slice B1 x.in'.length e1,.slice B2 x.ahead.length e2,.slice B3 x.out.length e3,.slice B4 x.calls.length e4,.int .i64 x.x]):=by rw[<-hW2];exact hd0 (Bk.new _ _ _)
   have z2:nN.heap.size<W2.heap.size:=qU.out.lt;clear hW2;have K0:=hd0 (h0.lw aeR.ok KE.out);have K1:=hd0 (h1.lw aeR.ok KE.out);have K2:=hd0 (h2.lw aeR.ok KE.out);have K3:=hd0 (h3.lw aeQ.ok KE.out);have K4:=hd0 (h4.lw aff.ok KE.out);have I5:=hd0 i5;clear h0 h1 h2 h3 h4 i5 hb q0 q1 q2 q3 q4 q5;have x0:∀xw:WIn (fun v=>Below W2.heap.size W2 v),xw.w.cell? ⟨nN.heap.size,0,none⟩=some (.slice B0 x.back.length e0):=ag (qU.out.cell 0);have x1:∀xw:WIn (fun v=>Below W2.heap.size W2 v),xw.w.cell? ⟨nN.heap.size,1,none⟩=some (.slice B1 x.in'.length e1):=ag (qU.out.cell 1);have x2:∀xw:WIn (fun v=>Below W2.heap.size W2 v),xw.w.cell? ⟨nN.heap.size,2,none⟩=some (.slice B2 x.ahead.length e2):=ag (qU.out.cell 2);have x3:∀xw:WIn (fun v=>Below W2.heap.size W2 v),xw.w.cell? ⟨nN.heap.size,3,none⟩=some (.slice B3 x.out.length e3):=ag (qU.out.cell 3);have x4:∀xw:WIn (fun v=>Below W2.heap.size W2 v),xw.w.cell? ⟨nN.heap.size,4,none⟩=some (.slice B4 x.calls.length e4):=ag (qU.out.cell 4);have nI:=hd0 (aC (W:=W2) (fun w' hw'=>zW w' B0 e0 x.back (K0.out.lw aeR.ok hw') HL0.out));have HA1:=hd0 (aC (W:=W2) (fun w' hw'=>zW w' B1 e1 x.in' (K1.out.lw aeR.ok hw') HL1.out));have HA2:=hd0 (aC (W:=W2) (fun w' hw'=>zW w' B2 e2 x.ahead (K2.out.lw aeR.ok hw') HL2.out));have EH:=hd0 (aC (W:=W2) (fun w' hw'=>um w' B3 e3 x.out (K3.out.lw aeQ.ok hw') qI.out));have HA4:=hd0 (aC (W:=W2) (fun w' _=>aA w' (x.calls.length) n4));have HA5:=hd0 (fun w'=>aA w' x.x I5.out);clear n4 HL0 HL1 HL2 qI;generalize S50++(rules.take k).flatMap fG=S53 at*
   generalize jd x.back=E0 at*
   generalize jd x.in'=E1 at*
   generalize jd x.ahead=E2 at*
   generalize rowB x.out=E3 at*
   generalize ah (x.calls.length:Int)=E4 at*
   generalize ah x.x=E6 at*
   have aa6:∀w',(Op.stringOp .add ⟨S53.toArray⟩ ⟨E0.toArray⟩).run Tryd.prog w'= .ok (.string ⟨(S53++E0).toArray⟩) w':=bf S53 E0 (by omega);have ade:(S53++E0).length<=S53.length+E0.length:=aW _ _;generalize hS54:S53++E0=S54 at*
   have abm:=hd0 hS54.symm;clear hS54;have aav:∀w',(Op.stringOp .add ⟨S54.toArray⟩ ⟨E1.toArray⟩).run Tryd.prog w'= .ok (.string ⟨(S54++E1).toArray⟩) w':=bf S54 E1 (by omega);have adB:(S54++E1).length<=S54.length+E1.length:=aW _ _;generalize hS55:S54++E1=S55 at*
   have acj:=hd0 hS55.symm;clear hS55;have aap:∀w',(Op.stringOp .add ⟨S55.toArray⟩ ⟨E2.toArray⟩).run Tryd.prog w'= .ok (.string ⟨(S55++E2).toArray⟩) w':=bf S55 E2 (by omega);have aea:(S55++E2).length<=S55.length+E2.length:=aW _ _;generalize hS56:S55++E2=S56 at*
   have aaW:=hd0 hS56.symm;clear hS56;have abb:∀w',(Op.stringOp .add ⟨S56.toArray⟩ ⟨E3.toArray⟩).run Tryd.prog w'= .ok (.string ⟨(S56++E3).toArray⟩) w':=bf S56 E3 (by omega);have adt:(S56++E3).length<=S56.length+E3.length:=aW _ _;generalize hS57:S56++E3=S57 at*
   have abL:=hd0 hS57.symm;clear hS57;have abr:∀w',(Op.stringOp .add ⟨S57.toArray⟩ ⟨E4.toArray⟩).run Tryd.prog w'= .ok (.string ⟨(S57++E4).toArray⟩) w':=bf S57 E4 (by omega);have aeB:(S57++E4).length<=S57.length+E4.length:=aW _ _;generalize hS58:S57++E4=S58 at*
   have abQ:=hd0 hS58.symm;clear hS58;refine bT (fun v=>Below W2.heap.size W2 v) (by kernel_rfl) (by kernel_rfl) ((agE W2.heap.size W2).drew) ?_;have aQ:Nonempty (WIn (fun v=>Below W2.heap.size W2 v)):=⟨⟨_,((agE W2.heap.size W2).drew)⟩⟩
   repeat(go_big_quiet_step (first|with_reducible exact nI.out _|with_reducible exact HA1.out _|with_reducible exact HA2.out _|with_reducible exact EH.out _|with_reducible exact HA4.out _))
   refine wpQuiet_nil ?_;intro _ hw';obtain⟨xq,hw''⟩:=hw';subst hw'';have Xb:Hid (Below W2.heap.size W2 xq.w):=hd0 xq.ok;generalize xq.w=wb at*
   clear x0 x1 x2 x3 x4 nI HA1 HA2 EH HA4 aQ aa6 aav aap abb abr;go_wp2_with fail
   go_loopw [3,6] (fun s i wr=>∃j:Nat,j<=x.calls.length/\i= .int .i64 j/\s= .string ⟨(S58++(x.calls.take j).flatMap fZ).toArray⟩/\Below W2.heap.size W2 wr) (fun _ i _=>x.calls.length - (intOf i).toNat)
   case atStart=>exact⟨0,nz _,rfl,by simp,Xb.out⟩
   case round=>
    obtain⟨wi,rfl⟩:∃x,x=wr:=⟨_,rfl⟩
    obtain⟨j,hj,rfl,rfl,hb⟩:=hrel;have zH:=hd0 hb;have c4:wi.cell? ⟨nN.heap.size,4,none⟩=some (.slice B4 x.calls.length e4):=((aP zH.out).1 _ _ z2).trans (qU.out.cell 4);by_cases hltj:j<x.calls.length
    ·
     obtain⟨b2,o2,y,rfl,-,hy,u0,u1,j0,j1⟩:=(K4.out.lw aff.ok hb).call hltj;have QU:Hid (S58++(x.calls.take (j+1)).flatMap fZ=S58++(x.calls.take j).flatMap fZ++ah y.at'++ah y.lookup):=by show _=_;rw[dB hy.out];simp[fZ]
     have hf2:=eX (f:=fZ) hy.out;simp only[fZ,la] at hf2;have hs2:(S58++(x.calls.take j).flatMap fZ).length<=S58.length+((x.calls.take j).flatMap fZ).length:=aW _ _;clear hy;have xc:∀xw:WIn (fun v=>Below wi.heap.size wi v),xw.w.cell? ⟨nN.heap.size,4,none⟩=some (.slice (some ⟨b2,o2,none⟩) x.calls.length e4):=ag c4;have xu0:∀xw:WIn (fun v=>Below wi.heap.size wi v),xw.w.cell? ⟨b2,o2+j*2,none⟩=some (.int .i64 y.at'):=ag u0;have xu1:∀xw:WIn (fun v=>Below wi.heap.size wi v),xw.w.cell? ⟨b2,o2+j*2+1,none⟩=some (.int .i64 y.lookup):=ag u1;have HB0:=hd0 (aC (W:=wi) (fun w' _=>aA w' (y.at') j0));have HB1:=hd0 (aC (W:=wi) (fun w' _=>aA w' (y.lookup) j1));generalize S58++(x.calls.take j).flatMap fZ=S59 at*
     generalize ah y.at'=G0 at*
     generalize ah y.lookup=G1 at*
     have adH:∀w',(Op.stringOp .add ⟨S59.toArray⟩ ⟨G0.toArray⟩).run Tryd.prog w'= .ok (.string ⟨(S59++G0).toArray⟩) w':=bf S59 G0 (by omega);have ad3:(S59++G0).length<=S59.length+G0.length:=aW _ _;generalize hS60:S59++G0=S60 at*
     have aa4:=hd0 hS60.symm;clear hS60;have aer:∀w',(Op.stringOp .add ⟨S60.toArray⟩ ⟨G1.toArray⟩).run Tryd.prog w'= .ok (.string ⟨(S60++G1).toArray⟩) w':=bf S60 G1 (by omega);have ad4:(S60++G1).length<=S60.length+G1.length:=aW _ _;generalize hS61:S60++G1=S61 at*
     have abS:=hd0 hS61.symm;clear hS61;clear hf2 hs2 hb u0 u1 j0 j1;go_wp2_with fail
     refine bT (fun v=>Below wi.heap.size wi v) (by kernel_rfl) (by kernel_rfl) ((agE wi.heap.size wi).drew) ?_;have aQ:Nonempty (WIn (fun v=>Below wi.heap.size wi v)):=⟨⟨_,((agE wi.heap.size wi).drew)⟩⟩
     repeat(go_big_quiet_step (first|with_reducible exact HB0.out _|with_reducible exact HB1.out _))
     refine wpQuiet_nil ?_;intro _ hw';obtain⟨xq,hw''⟩:=hw';subst hw'';have lq:Hid (Below W2.heap.size W2 xq.w):=hd0 (zH.out.trans (xq.ok.mono zH.out.size));generalize xq.w=wz at*
     go_wp2_with fail
     go_roundw
     case rel=>exact⟨j+1,by omega,by simp,by rw[QU.out,abS.out,aa4.out],lq.out⟩
     case measure=>simp[intOf];omega
    obtain rfl:j=x.calls.length:=by omega
    rw[agK];have ady:(S58++x.calls.flatMap fZ).length<=S58.length+(x.calls.flatMap fZ).length:=aW _ _;generalize hS62:S58++x.calls.flatMap fZ=S62 at*
    have abB:=hd0 hS62.symm;clear hS62 hb;have c5:wi.cell? ⟨nN.heap.size,5,none⟩=some (.int .i64 x.x):=((aP zH.out).1 _ _ z2).trans (qU.out.cell 5);have aeG:∀w',(Op.stringOp .add ⟨S62.toArray⟩ ⟨E6.toArray⟩).run Tryd.prog w'= .ok (.string ⟨(S62++E6).toArray⟩) w':=bf S62 E6 (by omega);have ad1:(S62++E6).length<=S62.length+E6.length:=aW _ _;generalize hS63:S62++E6=S63 at*
    have ab4:=hd0 hS63.symm;clear hS63;clear hf hs0;go_wp2_with fail
    refine(HA5.out _).mono ?_;rintro e wy ⟨rfl,hby⟩;have Hwy:Hid (Below W0.heap.size W0 wy):=hd0 (HW2.out.trans ((zH.out.mono HW2.out.size).trans (hby.mono (nt HW2.out.size zH.out.size))));clear hby;go_wp2_with fail
    go_roundw
    case rel=>exact⟨k+1,by omega,by simp,by rw[hsn.out,ab4.out,abB.out,abQ.out,abL.out,aaW.out,acj.out,abm.out],Hwy.out⟩
    case measure=>simp[intOf];omega
  obtain rfl:k=rules.length:=by omega
  rw[agK];have aex:(S50++rules.flatMap fG).length<=S50.length+(rules.flatMap fG).length:=aW _ _;generalize hS64:S50++rules.flatMap fG=S64 at*
  have aa8:=hd0 hS64.symm;clear hS64;go_wp2_with fail
  go_ret
  exact⟨by rw[aa8.out,abP.out,aaX.out];rfl,HW.out.trans (HX.out.mono HW.out.size)⟩
def OkE (w:World)(P:Prop)(e:Ending)(w':World):Prop:=∃r:Int,e= .returned (.int .i64 r)/\(r=0->P)/\Below w.heap.size w w'
def OkB (w:World)(P:Prop)(e:Ending)(w':World):Prop:=∃b:Bool,e= .returned (.bool b)/\(b=true->P)/\Below w.heap.size w w'
theorem OkE.bad {w w':World}{P:Prop}(r:Int)(h:r≠0)(hb:Below w.heap.size w w'):OkE w P (.returned (.int .i64 r)) w':=⟨r,rfl,fun e=>absurd e h,hb⟩
theorem OkE.good {w w':World}{P:Prop}(h:P)(hb:Below w.heap.size w w'):OkE w P (.returned (.int .i64 0)) w':=⟨0,rfl,fun _=>h,hb⟩
theorem OkB.bad {w w':World}{P:Prop}(hb:Below w.heap.size w w'):OkB w P (.returned (.bool false)) w':=⟨false,rfl,(fun e=>by cases e),hb⟩
theorem OkB.good {w w':World}{P:Prop}(h:P)(b:Bool)(hb:Below w.heap.size w w'):OkB w P (.returned (.bool b)) w':=⟨b,rfl,fun _=>h,hb⟩
def Up {α:Type}(l:List α)(k:Nat)(P:α->Prop):Prop:=∀x∈l.take k,P x
theorem Up.zero {α:Type}(l:List α)(P:α->Prop):Up l 0 P:=fun x hx=>by simp at hx
theorem Up.snoc {α:Type}{l:List α}{k:Nat}{P:α->Prop}{y:α}(h:Up l k P)(hy:l[k]? =some y)(hP:P y):Up l (k+1) P:=fun x hx=>by
 rw[ahg,hy,agJ] at hx;rcases hx with hx|hx
 ·exact h x hx
 simp only[Option.toList_some,agF] at hx;exact hx ▸ hP
theorem Up.all {α:Type}{l:List α}{P:α->Prop}(h:Up l l.length P):∀x∈l,P x:=fun x hx=>h x (by rwa [agK])
def dX (n:Int):Bool:=decide (-16384<=n/\n<=16384)
theorem kz {n:Int}(h:dX n=true):N9 n:=by have:=of_decide_eq_true h;unfold N9;omega
theorem bZ (w:World)(n:Int):Calls Tryd.prog 82 #[.int .i64 n] w fun e w'=>e= .returned (.bool (dX n))/\w=w':=by
 go_enter Tryd.func82,Tryd.ntmps82
 by_cases h1: -16384<=n
 ·by_cases h2:n<=16384
  ·have hd:dX n=true:=decide_eq_true ⟨h1,h2⟩;rw[hd];go_wp2_with fail
   go_ret
   exact⟨rfl,rfl⟩
  have hd:dX n=false:=decide_eq_false fun h=>h2 h.2
  rw[hd];go_wp2_with fail
  go_ret
  exact⟨rfl,rfl⟩
 have hd:dX n=false:=decide_eq_false fun h=>h1 h.1
 rw[hd];go_wp2_with fail
 go_ret
 exact⟨rfl,rfl⟩
theorem JK (w:World)(A:Option Addr)(c:Nat)(l:List Ins)(h:Sl ae9 2 w (Lw w) A l)(hl:l.length<=10000000000000):Calls Tryd.prog 84 #[.slice A l.length c] w (OkE w (l.length<=200/\jr l)):=by
 have H:=hd0 h;clear h;go_enter Tryd.func84,Tryd.ntmps84
 by_cases h200:200<l.length
 ·go_wp2_with fail
  go_ret
  exact OkE.bad _ (by decide) (agE _ _)
 go_wp2_with fail
 go_loopw [3] (fun i wr=>∃k:Nat,k<=l.length/\i= .int .i64 k/\Hid (Up l k (fun i=>1<=i.op/\i.op<=39/\N9 i.a))/\w=wr) (fun i _=>l.length - (intOf i).toNat)
 case atStart=>exact⟨0,by omega,rfl,hd0 (Up.zero _ _),rfl⟩
 case round=>
  obtain⟨k,hk,rfl,hup,rfl⟩:=hrel;by_cases hlt:k<l.length
  ·obtain⟨b,o,x,rfl,hb,hx,q0,q1,r0,r1⟩:=H.out.ins hlt;clear hb r0 r1;by_cases h1:x.op<1
   ·go_wp2_with fail
    go_ret
    exact OkE.bad _ (by decide) (agE _ _)
   by_cases h2:39<x.op
   ·go_wp2_with fail
    go_ret
    exact OkE.bad _ (by decide) (agE _ _)
   by_cases h3:x.a< -999999999
   ·go_wp2_with fail
    go_ret
    exact OkE.bad _ (by decide) (agE _ _)
   by_cases h4:999999999<x.a
   ·go_wp2_with fail
    go_ret
    exact OkE.bad _ (by decide) (agE _ _)
   have bY:=hd0 (hup.out.snoc hx.out ⟨by omega,by omega,by unfold N9;omega⟩);go_wp2_with fail
   go_roundw
   case rel=>exact⟨k+1,by omega,by simp,bY,by trivial⟩
   case measure=>simp[intOf];omega
  obtain rfl:k=l.length:=by omega
  go_wp2_with fail
  go_ret
  exact OkE.good ⟨by omega,fun i hi=>hup.out.all i hi⟩ (agE _ _)
theorem UQ (w:World)(a b c:Int):Calls Tryd.prog 83 #[.agg #[.int .i64 a,.int .i64 b,.int .i64 c]] w (OkB w (-64<=a/\a<=b/\b<=c/\c<=64)):=by
 obtain⟨P,HP⟩:∃P:Prop,Hid (P=(-64<=a/\a<=b/\b<=c/\c<=64)):=⟨_,rfl⟩
 rw[<-HP.out];go_enter Tryd.func83,Tryd.ntmps83
 by_cases h1:a< -64
 ·go_wp2_with fail
  go_ret
  exact OkB.bad ((agE _ _).alloc (ai _) _)
 by_cases h2:b<a
 ·go_wp2_with fail
  go_ret
  exact OkB.bad ((agE _ _).alloc (ai _) _)
 by_cases h3:c<b
 ·go_wp2_with fail
  go_ret
  exact OkB.bad ((agE _ _).alloc (ai _) _)
 by_cases h4:64<c
 ·go_wp2_with fail
  go_ret
  exact OkB.bad ((agE _ _).alloc (ai _) _)
 have HG:=hd0 (HP.out.mpr ⟨by omega,by omega,by omega,by omega⟩);go_wp2_with fail
 all_goals (go_ret;exact OkB.good HG.out _ ((agE _ _).alloc (ai _) _))
theorem Tn (w:World)(b:Nat)(r:List Int)(hr:Bk w b 105 (aN r).toArray)(hl:r.length=4):Calls Tryd.prog 94 #[.slice (some ⟨b,0,none⟩) 4 4] w (OkE w (∀x∈r,x=0)):=by
 obtain⟨P,HP⟩:∃P:Prop,Hid (P=(∀x∈r,x=0)):=⟨_,rfl⟩
 rw[<-HP.out];have HR:=hd0 hr;clear hr;go_enter Tryd.func94,Tryd.ntmps94
 go_wp2_with fail
 go_loopw [3] (fun i wr=>∃k:Nat,k<=4/\i= .int .i64 k/\Hid (Up r k (fun x=>x=0))/\w=wr) (fun i _=>4 - (intOf i).toNat)
 case atStart=>exact⟨0,by omega,rfl,hd0 (Up.zero _ _),rfl⟩
 case round=>
  obtain⟨k,hk,rfl,hup,rfl⟩:=hrel;by_cases hlt:k<4
  ·obtain⟨x,hx⟩:∃x,r[k]? =some x:=⟨_,agH (by omega)⟩
   have q0:w.cell? ⟨b,k,none⟩=some (.int .i64 x):=by rw[HR.out.cell k,<-Array.getElem?_toList];exact Dn _ _ _ hx
   by_cases h0:x=0
   ·have bY:=hd0 (hup.out.snoc hx h0);subst h0;clear hx;go_wp2_with fail
    go_roundw
    case rel=>exact⟨k+1,by omega,by simp,bY,by trivial⟩
    case measure=>simp[intOf];omega
   have e0:(x !=0)=true:=by simpa using h0
   go_wp2_with fail
   go_ret
   exact OkE.bad x h0 (agE _ _)
  obtain rfl:k=4:=by omega
  have HU:=hd0 (fun x (h:x∈r)=>(hup.out x (by rw[<-hl,agK];exact h)));have e4:((4:Nat):Int)=4:=rfl;rw[e4];go_wp2_with fail
  go_ret
  exact OkE.good (HP.out.mpr HU.out) (agE _ _)
theorem FZ (w:World)(s:B)(hs:s.length<=10000000000000):Calls Tryd.prog 81 #[.string ⟨s.toArray⟩] w (OkB w (nameB s=true)):=by
 obtain⟨P,HP⟩:∃P:Prop,Hid (P=(nameB s=true)):=⟨_,rfl⟩
 rw[<-HP.out];go_enter Tryd.func81,Tryd.ntmps81
 go_wp2_with fail
 go_loopw [3] (fun i wr=>∃k:Nat,k<=s.length/\i= .int .i64 k/\Hid (∀j c,j<k->s[j]? =some c->nameAt j c=true)/\w=wr) (fun i _=>s.length - (intOf i).toNat)
 case atStart=>exact⟨0,by omega,rfl,hd0 (by omega),rfl⟩
 case round=>
  obtain⟨k,hk,rfl,hall,rfl⟩:=hrel;by_cases hlt:k<s.length
  ·obtain⟨c,hc⟩:∃c,s[k]? =some c:=⟨_,agH hlt⟩
   have hb:=byte_at s k c hc hlt;have hend:Hid (nameAt k c=true->∀j d,j<k+1->s[j]? =some d->nameAt j d=true):=by
    intro hn j d hj hd;by_cases hjk:j=k
    ·subst hjk;rw[hc] at hd;cases hd;exact hn
    exact hall.out j d (by omega) hd
   clear hc;go_wp2_with fail
   all_goals first
    |(go_ret;exact OkB.bad (agE _ _))
    |((try simp only[Bool.not_eq_eq_eq_not,Bool.not_false,beq_iff_eq,beq_eq_false_iff_ne,bne_iff_ne,bne_eq_false_iff_eq,ahs,ne_eq] at*);refine⟨⟨k+1,by omega,by first|(simp;done)|(simp;omega),hd0 (hend.out ((qJ k c).2 ?_)),trivial⟩,by simp[intOf]<;>omega⟩;omega)
    |(exfalso;rename_i q1 q2 q3;have q4:(c.toNat:Int)<48:=(by omega);rw[if_pos q4] at q1;simp only[ag3,Value.bool.injEq] at q1;exact q2 q1.symm)
  obtain rfl:k=s.length:=by omega
  have hf:=hd0 (Ej s hall.out);go_wp2_with fail
  all_goals
   go_ret
   refine⟨_,rfl,fun hb=> ?_,agE _ _⟩;rw[HP.out,hf.out];have hb2:s≠[]/\s.length<=16:=by
    revert hb
    cases s with
    |nil=>simp
    |cons a r=>first|(simp;done)|(simp;omega)
   refine decide_eq_true ⟨aho.2 hb2.1,hb2.2⟩
structure Fp where
 A1:Option Addr
 c1:Nat
 A2:Option Addr
 c2:Nat
 A3:Option Addr
 c3:Nat
 A4:Option Addr
 c4:Nat
 A5:Option Addr
 c5:Nat
 A6:Option Addr
 c6:Nat
 A7:Option Addr
 c7:Nat
 A8:Option Addr
 c8:Nat
def Fp.cs (p:Fp)(f:Fnt):Array Value:= #[.int .i64 f.unit,.slice p.A1 f.aeN.length p.c1,.slice p.A2 f.chars.length p.c2,.slice p.A3 f.aeO.length p.c3,.slice p.A4 f.features.length p.c4,.slice p.A5 f.aeP.length p.c5,.slice p.A6 f.regions.length p.c6,.slice p.A7 f.funcs.length p.c7,.slice p.A8 f.cvt.length p.c8]
structure FIn (p:Fp)(f:Fnt)(w:World):Prop where
 unit:I64 f.unit
 aeN:Sl aeU 9 w (Lw w) p.A1 f.aeN
 chars:Sl afb 2 w (Lw w) p.A2 f.chars
 aeO:Sl aeV 3 w (Lw w) p.A3 f.aeO
 aeX:Sl aeW 2 w (Lw w) p.A4 f.features
 aeP:Sl ae2 4 w (Lw w) p.A5 f.aeP
 regs:Sl aeY 1 w (Lw w) p.A6 f.regions
 funcs:Sl ae1 1 w (Lw w) p.A7 f.funcs
 cvt:Sl aeQ 1 w (Lw w) p.A8 f.cvt
theorem FIn.below {p:Fp}{f:Fnt}{w w':World}(h:FIn p f w)(hb:Below w.heap.size w w'):FIn p f w':=⟨h.unit,h.aeN.lw aeU.ok hb,h.chars.lw afb.ok hb,h.aeO.lw aeV.ok hb,h.aeX.lw aeW.ok hb,h.aeP.lw ae2.ok hb,h.regs.lw aeY.ok hb,h.funcs.lw ae1.ok hb,h.cvt.lw aeQ.ok hb⟩
theorem afe.fin {w:World}{fc:List Value}{f:Fnt}(h:afe w (Lw w) fc f):∃p:Fp,fc.toArray=p.cs f/\FIn p f w:=by obtain⟨A1,c1,A2,c2,A3,c3,A4,c4,A5,c5,A6,c6,A7,c7,A8,c8,rfl,r0,h1,h2,h3,h4,h5,h6,h7,h8⟩:=h;exact⟨⟨A1,c1,A2,c2,A3,c3,A4,c4,A5,c5,A6,c6,A7,c7,A8,c8⟩,rfl,r0,h1,h2,h3,h4,h5,h6,h7,h8⟩
structure Gp where
 A3:Option Addr
 c3:Nat
 A4:Option Addr
 c4:Nat
 A5:Option Addr
 c5:Nat
 A6:Option Addr
 c6:Nat
 A7:Option Addr
 c7:Nat
 A8:Option Addr
 c8:Nat
def Gp.cs (p:Gp)(g:aeS):Array Value:= #[.string ⟨g.name.toArray⟩,.int .i64 g.advance,.bool g.mark,.slice p.A3 g.points.length p.c3,.slice p.A4 g.ends.length p.c4,.slice p.A5 g.parts.length p.c5,.slice p.A6 g.anchors.length p.c6,.slice p.A7 g.deltas.length p.c7,.slice p.A8 g.hint.length p.c8]
structure GIn (p:Gp)(g:aeS)(w:World):Prop where
 adv:I64 g.advance
 points:Sl PtR 3 w (Lw w) p.A3 g.points
 ends:Sl aeQ 1 w (Lw w) p.A4 g.ends
 parts:Sl afg 3 w (Lw w) p.A5 g.parts
 anchors:Sl ae6 4 w (Lw w) p.A6 g.anchors
 deltas:Sl afc 4 w (Lw w) p.A7 g.deltas
 hint:Sl ae9 2 w (Lw w) p.A8 g.hint
theorem GIn.below {p:Gp}{g:aeS}{w w':World}(h:GIn p g w)(hb:Below w.heap.size w w'):GIn p g w':=⟨h.adv,h.points.lw PtR.ok hb,h.ends.lw aeQ.ok hb,h.parts.lw afg.ok hb,h.anchors.lw ae6.ok hb,h.deltas.lw afc.ok hb,h.hint.lw ae9.ok hb⟩
structure Rp where
 A0:Option Addr
 c0:Nat
 A1:Option Addr
 c1:Nat
 A2:Option Addr
 c2:Nat
 A3:Option Addr
 c3:Nat
 A4:Option Addr
 c4:Nat
def Rp.cs (p:Rp)(r:ae4):Array Value:= #[.slice p.A0 r.back.length p.c0,.slice p.A1 r.in'.length p.c1,.slice p.A2 r.ahead.length p.c2,.slice p.A3 r.out.length p.c3,.slice p.A4 r.calls.length p.c4,.int .i64 r.x]
structure RIn (p:Rp)(r:ae4)(w:World):Prop where
 x:I64 r.x
 back:Sl aeR 1 w (Lw w) p.A0 r.back
 in':Sl aeR 1 w (Lw w) p.A1 r.in'
 ahead:Sl aeR 1 w (Lw w) p.A2 r.ahead
 out:Sl aeQ 1 w (Lw w) p.A3 r.out
 calls:Sl aff 2 w (Lw w) p.A4 r.calls
theorem RIn.below {p:Rp}{r:ae4}{w w':World}(h:RIn p r w)(hb:Below w.heap.size w w'):RIn p r w':=⟨h.x,h.back.lw aeR.ok hb,h.in'.lw aeR.ok hb,h.ahead.lw aeR.ok hb,h.out.lw aeQ.ok hb,h.calls.lw aff.ok hb⟩
def Big (n:Nat):Prop:=n<=10000000000000
theorem aB (w:World)(t:TypeId)(cs:Array Value):∃W,w.alloc (.cells cs t)=W/\Below w.heap.size w W/\Bk W w.heap.size t cs:=⟨_,rfl,(agE _ _).alloc (ai _) _,Bk.new _ _ _⟩
theorem Bk.bel {w w':World}{b:Nat}{t:TypeId}{cs:Array Value}(h:Bk w b t cs)(hb:Below w.heap.size w w'):Bk w' b t cs:=(hb.block b h.lt).trans h
theorem Bk.at {w w':World}{b:Nat}{t:TypeId}{cs:Array Value}(h:Bk w b t cs)(hb:Below w.heap.size w w')(i:Nat){v:Value}(hv:cs[i]? =some v):w'.cell? ⟨b,i,none⟩=some v:=by rw[(aP hb).1 _ _ h.lt,h.cell i,hv]
theorem Si (w:World)(A1 A2:Option Addr)(c1 c2:Nat)(pts:List Pt)(es:List Int)(h2:Sl aeQ 1 w (Lw w) A2 es)(hl1:Big pts.length)(hl2:Big es.length):Calls Tryd.prog 93 #[.agg #[.slice A1 pts.length c1,.slice A2 es.length c2]] w (OkB w (gU 0 es pts.length)):=by
 obtain⟨P,HP⟩:∃P:Prop,Hid (P=(gU 0 es pts.length)):=⟨_,rfl⟩
 rw[<-HP.out];unfold Big at hl1 hl2;have H2:=hd0 h2;clear h2;go_enter Tryd.func93,Tryd.ntmps93
 obtain⟨W0,hW0,hb0,hk0⟩:=aB w 51 #[.slice A1 pts.length c1,.slice A2 es.length c2];have HB0:=hd0 hb0;have HK0:=hd0 hk0;replace H2:=hd0 (H2.out.lw aeQ.ok hb0);have k0:W0.cell? ⟨w.heap.size,0,none⟩=some (.slice A1 pts.length c1):=hk0.cell 0;have k1:W0.cell? ⟨w.heap.size,1,none⟩=some (.slice A2 es.length c2):=hk0.cell 1;have hz0:=hb0.size;clear hb0 hk0;go_wp2_with fail
 try rw[hW0]
 clear hW0;go_loopw [3,4] (fun l i wr=>∃(k:Nat) (last:Int),k<=es.length/\i= .int .i64 k/\l= .int .i64 last/\ -1<=last/\last<(pts.length:Int)+1/\Hid (∀tl,gU (last+1).toNat tl pts.length->gU 0 (es.take k++tl) pts.length)/\Below W0.heap.size W0 wr) (fun _ i _=>es.length - (intOf i).toNat)
 case atStart=>exact⟨0,-1,by omega,rfl,rfl,by omega,by omega,hd0 (fun tl h=>by simpa using h),agE _ _⟩
 case round=>
  obtain⟨k,last,hk,rfl,rfl,hl0,rE,hen,hbr⟩:=hrel;have kX:=hd0 hbr;have x0:=HK0.out.at kX.out 0 rfl;have x1:=HK0.out.at kX.out 1 rfl;have jm:Hid (Below w.heap.size w wr):=hd0 (HB0.out.trans (hbr.mono hz0));clear hbr;by_cases hlt:k<es.length
  ·obtain⟨b,o,e,rfl,hb,hx,q0,r0⟩:=(H2.out.lw aeQ.ok kX.out).int hlt;clear hb r0;have Ci:Hid (0<=e->e<pts.length->last+2<=e->∀tl,gU (e+1).toNat tl pts.length->gU 0 (es.take (k+1)++tl) pts.length):=by intro a1 a2 a3 tl ht;rw[ahg,hx.out,agR];refine hen.out _ ?_;show gU _ (e::tl) _;exact⟨by omega,by omega,by rw[show e.toNat+1=(e+1).toNat by omega];exact ht⟩
   clear hx hen;by_cases h1:e<0
   ·have b1:decide (e<0)=true:=decide_eq_true h1;go_wp2_with fail
    go_quiet (fail)
    go_wp2_with fail
    go_ret
    exact OkB.bad (below_drewN jm.out _)
   have b1:decide (e<0)=false:=decide_eq_false h1;by_cases h2:(pts.length:Int)<=e
   ·have b2:decide ((pts.length:Int)<=e)=true:=decide_eq_true h2;go_wp2_with fail
    go_quiet (fail)
    go_wp2_with fail
    go_ret
    exact OkB.bad (below_drewN jm.out _)
   have b2:decide ((pts.length:Int)<=e)=false:=decide_eq_false h2;by_cases h3:e<last+2
   ·have b3:decide (e<last+2)=true:=decide_eq_true h3;go_wp2_with fail
    go_quiet (fail)
    go_wp2_with fail
    go_ret
    exact OkB.bad (below_drewN jm.out _)
   have b3:decide (e<last+2)=false:=decide_eq_false h3;have abw:=hd0 (Ci.out (by omega) (by omega) (by omega));go_wp2_with fail
   go_quiet (fail)
   go_wp2_with fail
   go_roundw
   case rel=>exact⟨k+1,e,by omega,by simp,rfl,by omega,by omega,abw,below_drewN kX.out _⟩
   case measure=>simp[intOf];omega
  obtain rfl:k=es.length:=by omega
  by_cases he:last=(pts.length:Int) - 1
  ·have hg:P:=HP.out.mpr (by
    have:=hen.out [] (by show(last+1).toNat=pts.length;omega)
    rwa [agK,ag8] at this)
   subst he;go_wp2_with fail
   go_ret
   exact OkB.good hg _ jm.out
  have e1:(last==(pts.length:Int) - 1)=false:=by simpa using he
  go_wp2_with fail
  go_ret
  exact OkB.bad jm.out
theorem In.of {n:Nat}{x:Int}(h0:¬x<0)(h1:¬(n:Int)<=x):In n x:=⟨by omega,by omega⟩
theorem Oo {l:List Int}{k:Nat}{x y:Int}(h:(l.take k).Pairwise (· < ·))(hy:l[k]? =some y)(hx:l[k - 1]? =some x)(hk:0<k)(hxy:x<y):(l.take (k+1)).Pairwise (· < ·):=by
 have hlt:=(agG.1 hy).1;have e1:l.take k=l.take (k - 1)++[x]:=by have:=ahg (l:=l) (i:=k - 1);rw[hx,show k - 1+1=k by omega] at this;exact this
 rw[ahg,hy,List.pairwise_append];refine⟨h,by simp,fun a ha b hb=> ?_⟩;simp only[Option.toList_some,agF] at hb;subst hb;rw[e1,agJ,agF] at ha;rw[e1,List.pairwise_append] at h;rcases ha with ha|rfl
 ·exact Int.lt_trans (h.2.2 a ha x (by simp)) hxy
 exact hxy
theorem Rj (w:World)(f:Fnt)(A1 A2 A3 A4 A5 A6 A7 A8:Option Addr)(c1 c2 c3 c4 c5 c6 c7 c8:Nat)(A:Option Addr)(c:Nat)(l:List Int)(h:Sl aeQ 1 w (Lw w) A l)(hl:Big l.length)(hg:Big f.aeN.length):Calls Tryd.prog 107 #[.agg #[.int .i64 f.unit,.slice A1 f.aeN.length c1,.slice A2 f.chars.length c2,.slice A3 f.aeO.length c3,.slice A4 f.features.length c4,.slice A5 f.aeP.length c5,.slice A6 f.regions.length c6,.slice A7 f.funcs.length c7,.slice A8 f.cvt.length c8],.slice A l.length c] w (OkB w (OkS f.aeN.length l)):=by
 obtain⟨P,HP⟩:∃P:Prop,Hid (P=(OkS f.aeN.length l)):=⟨_,rfl⟩
 rw[<-HP.out];unfold Big at hl hg;have H:=hd0 h;clear h;obtain⟨Wf,hWf,hbf,bD⟩:=aB w 32 #[.int .i64 f.unit,.slice A1 f.aeN.length c1,.slice A2 f.chars.length c2,.slice A3 f.aeO.length c3,.slice A4 f.features.length c4,.slice A5 f.aeP.length c5,.slice A6 f.regions.length c6,.slice A7 f.funcs.length c7,.slice A8 f.cvt.length c8];have aS:Hid (Below w.heap.size w Wf):=hd0 hbf;have iM:=hd0 bD;go_enter Tryd.func107,Tryd.ntmps107
 have hz0:=hbf.size;clear hbf bD;go_wp2_with fail
 try rw[hWf]
 clear hWf;go_loopw [5] (fun i wr=>∃k:Nat,k<=l.length/\i= .int .i64 k/\Hid ((l.take k).Pairwise (· < ·)/\Up l k (In f.aeN.length))/\Below Wf.heap.size Wf wr) (fun i _=>l.length - (intOf i).toNat)
 case atStart=>exact⟨0,by omega,rfl,hd0 ⟨by simp,Up.zero _ _⟩,agE _ _⟩
 case round=>
  obtain⟨k,hk,rfl,hup,hbr⟩:=hrel;have kX:=hd0 hbr;have x1:=iM.out.at kX.out 1 rfl;have jm:Hid (Below w.heap.size w wr):=hd0 (aS.out.trans (hbr.mono hz0));clear hbr;by_cases hlt:k<l.length
  ·obtain⟨b,o,e,rfl,hb,hx,q0,r0⟩:=(H.out.lw aeQ.ok jm.out).int hlt;clear hb r0;by_cases h1:e<0
   ·have bh1:decide (e<0)=true:=decide_eq_true h1;go_wp2_with fail
    go_quiet (fail)
    go_wp2_with fail
    go_ret
    exact OkB.bad (below_drewN jm.out _)
   have bh1:decide (e<0)=false:=decide_eq_false h1;by_cases h2:(f.aeN.length:Int)<=e
   ·have kF:decide ((f.aeN.length:Int)<=e)=true:=decide_eq_true h2;go_wp2_with fail
    go_quiet (fail)
    go_wp2_with fail
    go_ret
    exact OkB.bad (below_drewN jm.out _)
   have kF:decide ((f.aeN.length:Int)<=e)=false:=decide_eq_false h2;by_cases hk0:k=0
   ·subst hk0;have bY:Hid ((l.take (0+1)).Pairwise (· < ·)/\Up l (0+1) (In f.aeN.length)):=hd0 ⟨by rw[ahg,hx.out];simp,hup.out.2.snoc hx.out (In.of h1 h2)⟩;have e0:((0:Nat):Int)=0:=rfl;simp only[Nat.add_zero] at q0;rw[e0];go_wp2_with fail
    go_quiet (fail)
    go_wp2_with fail
    go_roundw
    case rel=>exact⟨0+1,by omega,by simp,bY,below_drewN kX.out _⟩
    case measure=>simp[intOf];omega
   obtain⟨j,rfl⟩:∃j,k=j+1:=⟨k - 1,by omega⟩
   have bk:decide (0<((j+1:Nat):Int))=true:=decide_eq_true (by omega);have ej:((j+1:Nat):Int) - 1=(j:Int):=by omega
   obtain⟨b',o',y,e',hb',hy,q1,r1⟩:=(H.out.lw aeQ.ok jm.out).int (k:=j) (by omega);obtain⟨rfl,rfl⟩:b=b'/\o=o':=by simpa using e'
   clear hb' r1 e';by_cases h3:e<=y
   ·have jJ:decide (e<=y)=true:=decide_eq_true h3;go_wp2_with fail
    go_quiet (fail)
    go_wp2_with fail
    go_ret
    exact OkB.bad (below_drewN jm.out _)
   have jJ:decide (e<=y)=false:=decide_eq_false h3;have bY:=hd0 (show(l.take (j+1+1)).Pairwise (· < ·)/\Up l (j+1+1) (In f.aeN.length) from⟨Oo hup.out.1 hx.out (by exact hy.out) (by omega) (by omega),hup.out.2.snoc hx.out (In.of h1 h2)⟩);go_wp2_with fail
   go_quiet (fail)
   go_wp2_with fail
   go_roundw
   case rel=>exact⟨j+1+1,by omega,by simp,bY,below_drewN kX.out _⟩
   case measure=>simp[intOf];omega
  obtain rfl:k=l.length:=by omega
  by_cases h0:l.length=0
  ·have b0:decide (0<(l.length:Int))=false:=decide_eq_false (by omega);go_wp2_with fail
   go_ret
   exact OkB.bad jm.out
  have b0:decide (0<(l.length:Int))=true:=decide_eq_true (by omega);have hg:P:=HP.out.mpr ⟨by have:=hup.out.1;rwa [agK] at this,fun x hx=>hup.out.2.all x hx⟩;go_wp2_with fail
  go_ret
  exact OkB.good hg _ jm.out
theorem Ph (w:World)(f:Fnt)(A1 A2 A3 A4 A5 A6 A7 A8:Option Addr)(c1 c2 c3 c4 c5 c6 c7 c8:Nat)(g:aeS)(B3 B4 B5 B6 B7 B8:Option Addr)(d3 d4 d5 d6 d7 d8:Nat)(h:Sl afg 3 w (Lw w) B5 g.parts)(hl:Big g.parts.length)(hn:Big f.aeN.length):Calls Tryd.prog 95 #[.agg #[.int .i64 f.unit,.slice A1 f.aeN.length c1,.slice A2 f.chars.length c2,.slice A3 f.aeO.length c3,.slice A4 f.features.length c4,.slice A5 f.aeP.length c5,.slice A6 f.regions.length c6,.slice A7 f.funcs.length c7,.slice A8 f.cvt.length c8],.agg #[.string ⟨g.name.toArray⟩,.int .i64 g.advance,.bool g.mark,.slice B3 g.points.length d3,.slice B4 g.ends.length d4,.slice B5 g.parts.length d5,.slice B6 g.anchors.length d6,.slice B7 g.deltas.length d7,.slice B8 g.hint.length d8]] w (OkE w (g.parts.length<=8/\∀p∈g.parts,In f.aeN.length p.aeT/\N9 p.x/\N9 p.y)):=by
 obtain⟨P,HP⟩:∃P:Prop,Hid (P=(g.parts.length<=8/\∀p∈g.parts,In f.aeN.length p.aeT/\N9 p.x/\N9 p.y)):=⟨_,rfl⟩
 rw[<-HP.out];unfold Big at*
 have H:=hd0 h;clear h;obtain⟨Wf,hWf,hbf,bD⟩:=aB w 32 #[.int .i64 f.unit,.slice A1 f.aeN.length c1,.slice A2 f.chars.length c2,.slice A3 f.aeO.length c3,.slice A4 f.features.length c4,.slice A5 f.aeP.length c5,.slice A6 f.regions.length c6,.slice A7 f.funcs.length c7,.slice A8 f.cvt.length c8];have aS:Hid (Below w.heap.size w Wf):=hd0 hbf;have iM:=hd0 bD;obtain⟨Wg,kZ,hbg,hkg⟩:=aB Wf 57 #[.string ⟨g.name.toArray⟩,.int .i64 g.advance,.bool g.mark,.slice B3 g.points.length d3,.slice B4 g.ends.length d4,.slice B5 g.parts.length d5,.slice B6 g.anchors.length d6,.slice B7 g.deltas.length d7,.slice B8 g.hint.length d8];have bV:Hid (Below w.heap.size w Wg):=hd0 (aS.out.trans (hbg.mono aS.out.size));have aj:=hd0 hkg;have aG:Hid (Bk Wg w.heap.size 32 #[.int .i64 f.unit,.slice A1 f.aeN.length c1,.slice A2 f.chars.length c2,.slice A3 f.aeO.length c3,.slice A4 f.features.length c4,.slice A5 f.aeP.length c5,.slice A6 f.regions.length c6,.slice A7 f.funcs.length c7,.slice A8 f.cvt.length c8]):=hd0 (Bk.bel bD hbg);go_enter Tryd.func95,Tryd.ntmps95
 have hzg:=bV.out.size;clear hbf bD hbg hkg iM;have n5:Wg.cell? ⟨Wf.heap.size,5,none⟩=some (.slice B5 g.parts.length d5):=aj.out.cell 5;by_cases hm:8<g.parts.length
 ·have bm:decide ((8:Int)<g.parts.length)=true:=decide_eq_true (by omega);go_wp2_with fail
  go_ret
  exact OkE.bad _ (by decide) bV.out
 have bm:decide ((8:Int)<g.parts.length)=false:=decide_eq_false (by omega);go_wp2_with fail
 try rw[hWf]
 try rw[kZ]
 clear n5 kZ hWf;go_loopw [5] (fun i wr=>∃k:Nat,k<=g.parts.length/\i= .int .i64 k/\Hid (Up g.parts k (fun p=>In f.aeN.length p.aeT/\N9 p.x/\N9 p.y))/\Below Wg.heap.size Wg wr) (fun i _=>g.parts.length - (intOf i).toNat)
 case atStart=>exact⟨0,by omega,rfl,hd0 (Up.zero _ _),agE _ _⟩
 case round=>
  obtain⟨k,hk,rfl,hup,hbr⟩:=hrel;have kX:=hd0 hbr;have x5:=aj.out.at kX.out 5 rfl;have jm:Hid (Below w.heap.size w wr):=hd0 (bV.out.trans (hbr.mono hzg));by_cases hlt:k<g.parts.length
  ·obtain⟨b,o,x,rfl,hb,hx,q0,q1,q2,r0,r1,r2⟩:=(H.out.lw afg.ok jm.out).part hlt;obtain⟨W1,hW1,hb1,hk1⟩:=aB wr 66 #[.int .i64 x.aeT,.int .i64 x.x,.int .i64 x.y];have HB1:Hid (Below Wg.heap.size Wg W1):=hd0 (hbr.trans (hb1.mono hbr.size));have iw:Hid (Below w.heap.size w W1):=hd0 (bV.out.trans (HB1.out.mono hzg));have y1:=aG.out.at HB1.out 1 rfl;have y5:=aj.out.at HB1.out 5 rfl;have p0:=hk1.cell 0;have p1:=hk1.cell 1;have p2:=hk1.cell 2;clear hb r0 r1 r2 hb1 hk1 hbr;by_cases h1:x.aeT<0
   ·have bh1:decide (x.aeT<0)=true:=decide_eq_true h1;go_wp2_with fail
    go_ret
    exact OkE.bad _ (by decide) iw.out
   have bh1:decide (x.aeT<0)=false:=decide_eq_false h1;by_cases h2:(f.aeN.length:Int)<=x.aeT
   ·have kF:decide ((f.aeN.length:Int)<=x.aeT)=true:=decide_eq_true h2;go_wp2_with fail
    go_ret
    exact OkE.bad _ (by decide) iw.out
   have kF:decide ((f.aeN.length:Int)<=x.aeT)=false:=decide_eq_false h2;by_cases h3:dX x.x=false
   ·go_wp2_with (first|(go_at_call 82;refine(bZ _ _).mono ?_;rintro e w' ⟨rfl,rfl⟩))
    go_ret
    exact OkE.bad _ (by decide) iw.out
   have jJ:dX x.x=true:=by simpa using h3
   by_cases h4:dX x.y=false
   ·go_wp2_with (first|(go_at_call 82;refine(bZ _ _).mono ?_;rintro e w' ⟨rfl,rfl⟩))
    go_ret
    exact OkE.bad _ (by decide) iw.out
   have qX:dX x.y=true:=by simpa using h4
   have bY:=hd0 (hup.out.snoc hx.out ⟨In.of h1 h2,kz jJ,kz qX⟩);go_wp2_with (first|(go_at_call 82;refine(bZ _ _).mono ?_;rintro e w' ⟨rfl,rfl⟩))
   go_roundw
   case rel=>exact⟨k+1,by omega,by simp,bY,HB1.out⟩
   case measure=>simp[intOf];omega
  obtain rfl:k=g.parts.length:=by omega
  have hg:P:=HP.out.mpr ⟨by omega,fun x hx=>hup.out.all x hx⟩;clear hbr;go_wp2_with fail
  go_ret
  exact OkE.good hg jm.out
end Go.Proofs.YtkijckccfookeaaDoor
