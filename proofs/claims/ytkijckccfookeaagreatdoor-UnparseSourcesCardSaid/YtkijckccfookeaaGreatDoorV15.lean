/- Lemmas. -/
import Derived.Test.YtkijckccfookeaaGreatDoorV13
set_option linter.unusedVariables false
set_option linter.unusedSimpArgs false
set_option maxRecDepth 100000
set_option maxHeartbeats 32000000
namespace Go.Proofs.YtkijckccfookeaaGreatDoor
open Go.RowKit
section
theorem I4 (p:Call):1<=(je p).length:=by have:=fA p.at';unfold je;rw[la];omega
theorem IQ (r:aii):1<=(iT r).length:=by have:=fA r.x;unfold iT;simp only[la];omega
theorem QZ (w:World)(g:Lookup)(A2:Option Addr)(d2:Nat)(i0:I64 g.kind)(h2:Sl aig 6 w (Lw w) A2 g.rules)(hlen:(gZ g).length<=100000000000000):
  Calls Tryz.prog 101 #[.agg #[.int .i64 g.kind,.bool g.aik,.slice A2 g.rules.length d2]] w fun e w'=>e= .returned (.string ⟨(gZ g).toArray⟩)/\Below w.heap.size w w':=by
 obtain⟨kind,wK,rules⟩:=g;have hgl:gZ ⟨kind,wK,rules⟩=ah kind++uX wK++ah (rules.length:Int)++rules.flatMap iT:=by simp[gZ,Lj]
 rw[hgl] at hlen ⊢;clear hgl;simp only[la] at hlen;simp only at i0 h2 ⊢;have n2:I64 (rules.length:Int):=jW iT IQ rules (by omega);have ln2:rules.length<=100000000000000:=nt (eY iT IQ rules) (by omega);have H2:=hd0 h2;have HD0:=hd0 (fun w'=>ay w' _ i0);have HD1:=hd0 (fun w'=>ay w' _ n2);have HY:=hd0 (fun w'=>JK w' wK);clear h2 i0 n2;generalize ah kind=D0 at*
 generalize uX wK=Y at*
 generalize ah (rules.length:Int)=D1 at*
 go_enter Tryz.func101,Tryz.ntmps101
 go_wp2_with fail
 obtain⟨W0,hW0⟩:∃W0,w.alloc (.cells #[.int .i64 kind,.bool wK,.slice A2 rules.length d2] 72)=W0:=⟨_,rfl⟩
 rw[hW0];have HW:Hid (Below w.heap.size w W0):=by rw[<-hW0];exact hd0 ((akl _ _).alloc (nr _) _)
 have HK:Hid (Bk W0 w.heap.size 72 #[.int .i64 kind,.bool wK,.slice A2 rules.length d2]):=by rw[<-hW0];exact hd0 (Bk.new _ _ _)
 have z0:w.heap.size<W0.heap.size:=HK.out.lt;clear hW0;replace H2:=hd0 (H2.out.lw aig.ok HW.out);have x0:∀xw:WIn (fun v=>Below W0.heap.size W0 v),xw.w.cell? ⟨w.heap.size,0,none⟩=some (.int .i64 kind):=ax (HK.out.cell 0);have x1:∀xw:WIn (fun v=>Below W0.heap.size W0 v),xw.w.cell? ⟨w.heap.size,1,none⟩=some (.bool wK):=ax (HK.out.cell 1);have x2:∀xw:WIn (fun v=>Below W0.heap.size W0 v),xw.w.cell? ⟨w.heap.size,2,none⟩=some (.slice A2 rules.length d2):=ax (HK.out.cell 2);have aew:∀w',(Op.stringOp .add ⟨D0.toArray⟩ ⟨Y.toArray⟩).run Tryz.prog w'= .ok (.string ⟨(D0++Y).toArray⟩) w':=bi D0 Y (by omega);have agS:(D0++Y).length<=D0.length+Y.length:=bf _ _;generalize hS49:D0++Y=S49 at*
 have ady:=hd0 hS49.symm;clear hS49;have aeT:∀w',(Op.stringOp .add ⟨S49.toArray⟩ ⟨D1.toArray⟩).run Tryz.prog w'= .ok (.string ⟨(S49++D1).toArray⟩) w':=bi S49 D1 (by omega);have agm:(S49++D1).length<=S49.length+D1.length:=bf _ _;generalize hS50:S49++D1=S50 at*
 have adI:=hd0 hS50.symm;clear hS50;have Aj:=hd0 (aK (W:=W0) (fun w' _=>HD0.out w'));have BA:=hd0 (aK (W:=W0) (fun w' _=>HD1.out w'));have UM:=hd0 (aK (W:=W0) (fun w' _=>HY.out w'));refine bP (fun v=>Below W0.heap.size W0 v) (by kernel_rfl) (by kernel_rfl) ((akl W0.heap.size W0).drew) ?_;have bK:Nonempty (WIn (fun v=>Below W0.heap.size W0 v)):=⟨⟨_,((akl W0.heap.size W0).drew)⟩⟩
 repeat(go_big_quiet_step (first|with_reducible exact Aj.out _|with_reducible exact BA.out _|with_reducible exact UM.out _))
 refine wpQuiet_nil ?_;intro _ hw';obtain⟨xq,hw''⟩:=hw';subst hw'';have UH:Hid (Below W0.heap.size W0 xq.w):=hd0 xq.ok;generalize xq.w=wa at*
 clear x0 x1 x2 Aj BA UM bK aew aeT;go_wp2_with fail
 go_loopw [3,4] (fun s i wr=>∃k:Nat,k<=rules.length/\i= .int .i64 k/\s= .string ⟨(S50++(rules.take k).flatMap iT).toArray⟩/\Below W0.heap.size W0 wr) (fun _ i _=>rules.length - (intOf i).toNat)
 case atStart=>exact⟨0,nz _,rfl,by simp,UH.out⟩
 case round=>
  obtain⟨qV,rfl⟩:∃x,x=wr:=⟨_,rfl⟩
  obtain⟨k,hk,rfl,rfl,hb⟩:=hrel;have HX:=hd0 hb;have c2:qV.cell? ⟨w.heap.size,2,none⟩=some (.slice A2 rules.length d2):=((aj HX.out).1 _ _ z0).trans (HK.out.cell 2);by_cases hlt:k<rules.length
  ·
   obtain⟨b,o,x,B0,e0,B1,e1,B2,e2,B3,e3,B4,e4,rfl,-,hx,q0,q1,q2,q3,q4,q5,i5,h0,h1,h2,h3,h4⟩:=(H2.out.lw aig.ok hb).rule hlt;have hsn:Hid (S50++(rules.take (k+1)).flatMap iT=S50++(rules.take k).flatMap iT++jZ x.back++jZ x.in'++jZ x.ahead++rowB x.out++ah (x.calls.length:Int)++x.calls.flatMap je++ah x.x):=by show _=_;rw[dS hx.out];simp[iT,EU]
   have hf:=gV (f:=iT) hx.out;simp only[iT,EU,la,aF,ln] at hf;have hs0:(S50++(rules.take k).flatMap iT).length<=S50.length+((rules.take k).flatMap iT).length:=bf _ _;have n4:I64 (x.calls.length:Int):=jW je I4 x.calls (by omega);have ln4:x.calls.length<=100000000000000:=nt (eY je I4 x.calls) (by omega);have HL0:=hd0 (show(jZ x.back).length<=100000000000000 by omega);have HL1:=hd0 (show(jZ x.in').length<=100000000000000 by omega);have HL2:=hd0 (show(jZ x.ahead).length<=100000000000000 by omega);have OM:=hd0 (show(rowB x.out).length<=100000000000000 by omega);clear hx;go_wp2_with fail
   obtain⟨W2,hW2⟩:∃W2,qV.alloc (.cells #[.slice B0 x.back.length e0,.slice B1 x.in'.length e1,.slice B2 x.ahead.length e2,.slice B3 x.out.length e3,.slice B4 x.calls.length e4,.int .i64 x.x] 76)=W2:=⟨_,rfl⟩
   rw[hW2];have Pm:Hid (Below qV.heap.size qV W2):=by rw[<-hW2];exact hd0 ((akl _ _).alloc (nr _) _)
   have HW2:Hid (Below W0.heap.size W0 W2):=hd0 (HX.out.trans (Pm.out.mono HX.out.size));have mi:Hid (Bk W2 qV.heap.size 76 #[.slice B0 x.back.length e0,.slice B1 x.in'.length e1,.slice B2 x.ahead.length e2,.slice B3 x.out.length e3,.slice B4 x.calls.length e4,.int .i64 x.x]):=by rw[<-hW2];exact hd0 (Bk.new _ _ _)
   have z2:qV.heap.size<W2.heap.size:=mi.out.lt;clear hW2;have K0:=hd0 (h0.lw ahV.ok Pm.out);have K1:=hd0 (h1.lw ahV.ok Pm.out);have K2:=hd0 (h2.lw ahV.ok Pm.out);have K3:=hd0 (h3.lw ahT.ok Pm.out);have K4:=hd0 (h4.lw air.ok Pm.out);have I5:=hd0 i5;clear h0 h1 h2 h3 h4 i5 hb q0 q1 q2 q3 q4 q5;have x0:∀xw:WIn (fun v=>Below W2.heap.size W2 v),xw.w.cell? ⟨qV.heap.size,0,none⟩=some (.slice B0 x.back.length e0):=ax (mi.out.cell 0);have x1:∀xw:WIn (fun v=>Below W2.heap.size W2 v),xw.w.cell? ⟨qV.heap.size,1,none⟩=some (.slice B1 x.in'.length e1):=ax (mi.out.cell 1);have x2:∀xw:WIn (fun v=>Below W2.heap.size W2 v),xw.w.cell? ⟨qV.heap.size,2,none⟩=some (.slice B2 x.ahead.length e2):=ax (mi.out.cell 2);have x3:∀xw:WIn (fun v=>Below W2.heap.size W2 v),xw.w.cell? ⟨qV.heap.size,3,none⟩=some (.slice B3 x.out.length e3):=ax (mi.out.cell 3);have x4:∀xw:WIn (fun v=>Below W2.heap.size W2 v),xw.w.cell? ⟨qV.heap.size,4,none⟩=some (.slice B4 x.calls.length e4):=ax (mi.out.cell 4);have tY:=hd0 (aK (W:=W2) (fun w' hw'=>DR w' B0 e0 x.back (K0.out.lw ahV.ok hw') HL0.out));have HA1:=hd0 (aK (W:=W2) (fun w' hw'=>DR w' B1 e1 x.in' (K1.out.lw ahV.ok hw') HL1.out));have HA2:=hd0 (aK (W:=W2) (fun w' hw'=>DR w' B2 e2 x.ahead (K2.out.lw ahV.ok hw') HL2.out));have CV:=hd0 (aK (W:=W2) (fun w' hw'=>xC w' B3 e3 x.out (K3.out.lw ahT.ok hw') OM.out));have HA4:=hd0 (aK (W:=W2) (fun w' _=>ay w' (x.calls.length) n4));have TG:=hd0 (fun w'=>ay w' x.x I5.out);clear n4 HL0 HL1 HL2 OM;generalize S50++(rules.take k).flatMap iT=S53 at*
   generalize jZ x.back=E0 at*
   generalize jZ x.in'=E1 at*
   generalize jZ x.ahead=E2 at*
   generalize rowB x.out=E3 at*
   generalize ah (x.calls.length:Int)=E4 at*
   generalize ah x.x=E6 at*
   have ae5:∀w',(Op.stringOp .add ⟨S53.toArray⟩ ⟨E0.toArray⟩).run Tryz.prog w'= .ok (.string ⟨(S53++E0).toArray⟩) w':=bi S53 E0 (by omega);have agC:(S53++E0).length<=S53.length+E0.length:=bf _ _;generalize hS54:S53++E0=S54 at*
   have ae2:=hd0 hS54.symm;clear hS54;have aet:∀w',(Op.stringOp .add ⟨S54.toArray⟩ ⟨E1.toArray⟩).run Tryz.prog w'= .ok (.string ⟨(S54++E1).toArray⟩) w':=bi S54 E1 (by omega);have ahe:(S54++E1).length<=S54.length+E1.length:=bf _ _;generalize hS55:S54++E1=S55 at*
   have aff:=hd0 hS55.symm;clear hS55;have aeZ:∀w',(Op.stringOp .add ⟨S55.toArray⟩ ⟨E2.toArray⟩).run Tryz.prog w'= .ok (.string ⟨(S55++E2).toArray⟩) w':=bi S55 E2 (by omega);have agA:(S55++E2).length<=S55.length+E2.length:=bf _ _;generalize hS56:S55++E2=S56 at*
   have aeY:=hd0 hS56.symm;clear hS56;have adA:∀w',(Op.stringOp .add ⟨S56.toArray⟩ ⟨E3.toArray⟩).run Tryz.prog w'= .ok (.string ⟨(S56++E3).toArray⟩) w':=bi S56 E3 (by omega);have ag3:(S56++E3).length<=S56.length+E3.length:=bf _ _;generalize hS57:S56++E3=S57 at*
   have aeO:=hd0 hS57.symm;clear hS57;have aeF:∀w',(Op.stringOp .add ⟨S57.toArray⟩ ⟨E4.toArray⟩).run Tryz.prog w'= .ok (.string ⟨(S57++E4).toArray⟩) w':=bi S57 E4 (by omega);have agu:(S57++E4).length<=S57.length+E4.length:=bf _ _;generalize hS58:S57++E4=S58 at*
   have adC:=hd0 hS58.symm;clear hS58;refine bP (fun v=>Below W2.heap.size W2 v) (by kernel_rfl) (by kernel_rfl) ((akl W2.heap.size W2).drew) ?_;have bK:Nonempty (WIn (fun v=>Below W2.heap.size W2 v)):=⟨⟨_,((akl W2.heap.size W2).drew)⟩⟩
   repeat(go_big_quiet_step (first|with_reducible exact tY.out _|with_reducible exact HA1.out _|with_reducible exact HA2.out _|with_reducible exact CV.out _|with_reducible exact HA4.out _))
   refine wpQuiet_nil ?_;intro _ hw';obtain⟨xq,hw''⟩:=hw';subst hw'';have Hwb:Hid (Below W2.heap.size W2 xq.w):=hd0 xq.ok;generalize xq.w=wb at*
   clear x0 x1 x2 x3 x4 tY HA1 HA2 CV HA4 bK ae5 aet aeZ adA aeF;go_wp2_with fail
   go_loopw [3,6] (fun s i wr=>∃j:Nat,j<=x.calls.length/\i= .int .i64 j/\s= .string ⟨(S58++(x.calls.take j).flatMap je).toArray⟩/\Below W2.heap.size W2 wr) (fun _ i _=>x.calls.length - (intOf i).toNat)
   case atStart=>exact⟨0,nz _,rfl,by simp,Hwb.out⟩
   case round=>
    obtain⟨wi,rfl⟩:∃x,x=wr:=⟨_,rfl⟩
    obtain⟨j,hj,rfl,rfl,hb⟩:=hrel;have Dw:=hd0 hb;have c4:wi.cell? ⟨qV.heap.size,4,none⟩=some (.slice B4 x.calls.length e4):=((aj Dw.out).1 _ _ z2).trans (mi.out.cell 4);by_cases hltj:j<x.calls.length
    ·
     obtain⟨b2,o2,y,rfl,-,hy,u0,u1,j0,j1⟩:=(K4.out.lw air.ok hb).call hltj;have Ee:Hid (S58++(x.calls.take (j+1)).flatMap je=S58++(x.calls.take j).flatMap je++ah y.at'++ah y.lookup):=by show _=_;rw[dS hy.out];simp[je]
     have hf2:=gV (f:=je) hy.out;simp only[je,la] at hf2;have hs2:(S58++(x.calls.take j).flatMap je).length<=S58.length+((x.calls.take j).flatMap je).length:=bf _ _;clear hy;have xc:∀xw:WIn (fun v=>Below wi.heap.size wi v),xw.w.cell? ⟨qV.heap.size,4,none⟩=some (.slice (some ⟨b2,o2,none⟩) x.calls.length e4):=ax c4;have xu0:∀xw:WIn (fun v=>Below wi.heap.size wi v),xw.w.cell? ⟨b2,o2+j*2,none⟩=some (.int .i64 y.at'):=ax u0;have xu1:∀xw:WIn (fun v=>Below wi.heap.size wi v),xw.w.cell? ⟨b2,o2+j*2+1,none⟩=some (.int .i64 y.lookup):=ax u1;have HB0:=hd0 (aK (W:=wi) (fun w' _=>ay w' (y.at') j0));have HB1:=hd0 (aK (W:=wi) (fun w' _=>ay w' (y.lookup) j1));generalize S58++(x.calls.take j).flatMap je=S59 at*
     generalize ah y.at'=G0 at*
     generalize ah y.lookup=G1 at*
     have agd:∀w',(Op.stringOp .add ⟨S59.toArray⟩ ⟨G0.toArray⟩).run Tryz.prog w'= .ok (.string ⟨(S59++G0).toArray⟩) w':=bi S59 G0 (by omega);have agj:(S59++G0).length<=S59.length+G0.length:=bf _ _;generalize hS60:S59++G0=S60 at*
     have aeW:=hd0 hS60.symm;clear hS60;have agv:∀w',(Op.stringOp .add ⟨S60.toArray⟩ ⟨G1.toArray⟩).run Tryz.prog w'= .ok (.string ⟨(S60++G1).toArray⟩) w':=bi S60 G1 (by omega);have af2:(S60++G1).length<=S60.length+G1.length:=bf _ _;generalize hS61:S60++G1=S61 at*
     have ae3:=hd0 hS61.symm;clear hS61;clear hf2 hs2 hb u0 u1 j0 j1;go_wp2_with fail
     refine bP (fun v=>Below wi.heap.size wi v) (by kernel_rfl) (by kernel_rfl) ((akl wi.heap.size wi).drew) ?_;have bK:Nonempty (WIn (fun v=>Below wi.heap.size wi v)):=⟨⟨_,((akl wi.heap.size wi).drew)⟩⟩
     repeat(go_big_quiet_step (first|with_reducible exact HB0.out _|with_reducible exact HB1.out _))
     refine wpQuiet_nil ?_;intro _ hw';obtain⟨xq,hw''⟩:=hw';subst hw'';have ny:Hid (Below W2.heap.size W2 xq.w):=hd0 (Dw.out.trans (xq.ok.mono Dw.out.size));generalize xq.w=wz at*
     go_wp2_with fail
     go_roundw
     case rel=>exact⟨j+1,by omega,by simp,by rw[Ee.out,ae3.out,aeW.out],ny.out⟩
     case measure=>simp[intOf];omega
    obtain rfl:j=x.calls.length:=by omega
    rw[akr];have ahL:(S58++x.calls.flatMap je).length<=S58.length+(x.calls.flatMap je).length:=bf _ _;generalize hS62:S58++x.calls.flatMap je=S62 at*
    have aeA:=hd0 hS62.symm;clear hS62 hb;have c5:wi.cell? ⟨qV.heap.size,5,none⟩=some (.int .i64 x.x):=((aj Dw.out).1 _ _ z2).trans (mi.out.cell 5);have ahp:∀w',(Op.stringOp .add ⟨S62.toArray⟩ ⟨E6.toArray⟩).run Tryz.prog w'= .ok (.string ⟨(S62++E6).toArray⟩) w':=bi S62 E6 (by omega);have agk:(S62++E6).length<=S62.length+E6.length:=bf _ _;generalize hS63:S62++E6=S63 at*
    have ad1:=hd0 hS63.symm;clear hS63;clear hf hs0;go_wp2_with fail
    refine(TG.out _).mono ?_;rintro e wy ⟨rfl,hby⟩;have Hwy:Hid (Below W0.heap.size W0 wy):=hd0 (HW2.out.trans ((Dw.out.mono HW2.out.size).trans (hby.mono (nt HW2.out.size Dw.out.size))));clear hby;go_wp2_with fail
    go_roundw
    case rel=>exact⟨k+1,by omega,by simp,by rw[hsn.out,ad1.out,aeA.out,adC.out,aeO.out,aeY.out,aff.out,ae2.out],Hwy.out⟩
    case measure=>simp[intOf];omega
  obtain rfl:k=rules.length:=by omega
  rw[akr];have agl:(S50++rules.flatMap iT).length<=S50.length+(rules.flatMap iT).length:=bf _ _;generalize hS64:S50++rules.flatMap iT=S64 at*
  have ad9:=hd0 hS64.symm;clear hS64;go_wp2_with fail
  go_ret
  exact⟨by rw[ad9.out,adI.out,ady.out];rfl,HW.out.trans (HX.out.mono HW.out.size)⟩
def OkE (w:World)(P:Prop)(e:Ending)(w':World):Prop:=∃r:Int,e= .returned (.int .i64 r)/\(r=0->P)/\Below w.heap.size w w'
def OkB (w:World)(P:Prop)(e:Ending)(w':World):Prop:=∃b:Bool,e= .returned (.bool b)/\(b=true->P)/\Below w.heap.size w w'
theorem OkE.bad {w w':World}{P:Prop}(r:Int)(h:r≠0)(hb:Below w.heap.size w w'):OkE w P (.returned (.int .i64 r)) w':=⟨r,rfl,fun e=>absurd e h,hb⟩
theorem OkE.good {w w':World}{P:Prop}(h:P)(hb:Below w.heap.size w w'):OkE w P (.returned (.int .i64 0)) w':=⟨0,rfl,fun _=>h,hb⟩
theorem OkB.bad {w w':World}{P:Prop}(hb:Below w.heap.size w w'):OkB w P (.returned (.bool false)) w':=⟨false,rfl,(fun e=>by cases e),hb⟩
theorem OkB.good {w w':World}{P:Prop}(h:P)(b:Bool)(hb:Below w.heap.size w w'):OkB w P (.returned (.bool b)) w':=⟨b,rfl,fun _=>h,hb⟩
def Up {α:Type}(l:List α)(k:Nat)(P:α->Prop):Prop:=∀x∈l.take k,P x
theorem Up.zero {α:Type}(l:List α)(P:α->Prop):Up l 0 P:=fun x hx=>by simp at hx
theorem Up.snoc {α:Type}{l:List α}{k:Nat}{P:α->Prop}{y:α}(h:Up l k P)(hy:l[k]? =some y)(hP:P y):Up l (k+1) P:=fun x hx=>by
 rw[ak2,hy,akq] at hx;rcases hx with hx|hx
 ·exact h x hx
 simp only[Option.toList_some,akm] at hx;exact hx ▸ hP
theorem Up.all {α:Type}{l:List α}{P:α->Prop}(h:Up l l.length P):∀x∈l,P x:=fun x hx=>h x (by rwa [akr])
def fO (n:Int):Bool:=decide (-16384<=n/\n<=16384)
theorem mg {n:Int}(h:fO n=true):N9 n:=by have:=of_decide_eq_true h;unfold N9;omega
theorem dD (w:World)(n:Int):Calls Tryz.prog 116 #[.int .i64 n] w fun e w'=>e= .returned (.bool (fO n))/\w=w':=by
 go_enter Tryz.func116,Tryz.ntmps116
 by_cases h1: -16384<=n
 ·by_cases h2:n<=16384
  ·have hd:fO n=true:=decide_eq_true ⟨h1,h2⟩;rw[hd];go_wp2_with fail
   go_ret
   exact⟨rfl,rfl⟩
  have hd:fO n=false:=decide_eq_false fun h=>h2 h.2
  rw[hd];go_wp2_with fail
  go_ret
  exact⟨rfl,rfl⟩
 have hd:fO n=false:=decide_eq_false fun h=>h1 h.1
 rw[hd];go_wp2_with fail
 go_ret
 exact⟨rfl,rfl⟩
theorem O7 (w:World)(A:Option Addr)(c:Nat)(l:List Ins)(h:Sl ah5 2 w (Lw w) A l)(hl:l.length<=10000000000000):Calls Tryz.prog 118 #[.slice A l.length c] w (OkE w (l.length<=200/\xg l)):=by
 have H:=hd0 h;clear h;go_enter Tryz.func118,Tryz.ntmps118
 by_cases h200:200<l.length
 ·go_wp2_with fail
  go_ret
  exact OkE.bad _ (by decide) (akl _ _)
 go_wp2_with fail
 go_loopw [3] (fun i wr=>∃k:Nat,k<=l.length/\i= .int .i64 k/\Hid (Up l k (fun i=>1<=i.op/\i.op<=39/\N9 i.a))/\w=wr) (fun i _=>l.length - (intOf i).toNat)
 case atStart=>exact⟨0,by omega,rfl,hd0 (Up.zero _ _),rfl⟩
 case round=>
  obtain⟨k,hk,rfl,hup,rfl⟩:=hrel;by_cases hlt:k<l.length
  ·obtain⟨b,o,x,rfl,hb,hx,q0,q1,r0,r1⟩:=H.out.ins hlt;clear hb r0 r1;by_cases h1:x.op<1
   ·go_wp2_with fail
    go_ret
    exact OkE.bad _ (by decide) (akl _ _)
   by_cases h2:39<x.op
   ·go_wp2_with fail
    go_ret
    exact OkE.bad _ (by decide) (akl _ _)
   by_cases h3:x.a< -999999999
   ·go_wp2_with fail
    go_ret
    exact OkE.bad _ (by decide) (akl _ _)
   by_cases h4:999999999<x.a
   ·go_wp2_with fail
    go_ret
    exact OkE.bad _ (by decide) (akl _ _)
   have dm:=hd0 (hup.out.snoc hx.out ⟨by omega,by omega,by unfold N9;omega⟩);go_wp2_with fail
   go_roundw
   case rel=>exact⟨k+1,by omega,by simp,dm,by trivial⟩
   case measure=>simp[intOf];omega
  obtain rfl:k=l.length:=by omega
  go_wp2_with fail
  go_ret
  exact OkE.good ⟨by omega,fun i hi=>hup.out.all i hi⟩ (akl _ _)
theorem vF {e t size:Nat}(E:ElT e t size)(ty:TypeId)(w1:World)(base n c:Nat)(A:Option Addr)(xs:List Value)(news:Array Value)(hnl:news.size=size)(hown:w1.ownsRow base e size (.slice A n c) n xs)(h1:∀u∈news.toList,u.oneCell'=true)(hn:n<=10000000000)(hb:base<=w1.heap.size):
  ∃A' c' w',(Builtin.append_ #[t,t] ty #[.slice A n c,.slice (some ⟨w1.heap.size,0,none⟩) 1 1]).run Tryz.prog (w1.alloc (.cells news e))= .ok (.slice A' (n+1) c') w'/\w'.ownsRow base e size (.slice A' (n+1) c') (n+1) (xs++news.toList)/\w1.grownBy w' (Value.slice A n c).ownBlock/\Loc w1 (.slice A n c) (.slice A' (n+1) c'):=by
 obtain⟨A',c',w',hrun,h2,h3,h4⟩:=BO E ty (w1.alloc (.cells news e)) base n c A xs (hown.alloc _) (w1.heap.size+1) (some ⟨w1.heap.size,0,none⟩) 1 1 news.toList (Rd.newAt _ _ rfl news e 1 size (by omega)) h1 (by omega) (by simp;omega);refine⟨A',c',w',hrun,h2,⟨h3.os,h3.tape,h3.output,nt (by simp) h3.size,fun i hi hne=> ?_⟩,h4.imp id fun h5 g hg=>by have:=h5 g hg;simp at this;omega⟩;exact(h3.block i (by simp;omega) hne).trans (Below.heap_alloc _ _ _ hi)
theorem Xm (w:World):(sizeOf 124).run Tryz.prog w= .ok 3 w:=by kernel_rfl
theorem Y5 (w:World):(sizeOf 3).run Tryz.prog w= .ok 1 w:=by kernel_rfl
theorem OC {T E size:Nat}(hT:Tryz.prog.underlying T=some (.slice E))(hs:∀w,(sizeOf E).run Tryz.prog w= .ok size w)(A:Option Addr)(n c k:Nat)(z:Int)(hz:z=(k:Int))(hk:k<=n)(w:World):
  (Instr.slice T (.slice A n c) (some (.int .i64 z)) none none).run Tryz.prog w= .ok (.slice (if c=k then A else A.map (·.add (k*size))) (n - k) (c - k)) w:=by
 subst hz;simp[Instr.slice,Instr.sliceBounds,Instr.sliceBound,asIntOf,run_underlying hT,hs,Result.andThen,hk]
theorem TI {α:Type}(f:α->List Value)(size:Nat)(hf:∀x,(f x).length=size)(l:List α)(k:Nat):(l.drop k).flatMap f=(l.flatMap f).drop (k*size):=by
 induction k generalizing l with
 |zero=>simp
 |succ k ih=>
  cases l with
  |nil=>simp
  |cons x r=>have hnil:(f x).drop ((k+1)*size)=[]:=akU (by rw[hf,alg];omega);rw[List.drop_succ_cons,ih,akD,List.drop_append,hnil,hf,alg,Nat.one_mul,Nat.add_sub_cancel];rfl
theorem WA (ws:List P3)(k:Nat):dA (ws.drop k)=(dA ws).drop (k*3):=TI c3 3 (fun _=>rfl) ws k
theorem RdT.sub {w:World}{t:TypeId}{A:Option Addr}{n c k size:Nat}{cs:List Value}(h:RdT w t A n size cs)(hk:k<=n)(hc:n<=c):RdT w t (if c=k then A else A.map (·.add (k*size))) (n - k) size (cs.drop (k*size)):=by
 refine⟨by rw[ak0,h.1,Nat.sub_mul],fun h0=> ?_⟩;obtain⟨b,o,cur,e,hb,hr⟩:=h.2 (by omega);rw[if_neg (by omega),e];refine⟨b,o+k*size,cur,?_,hb,fun j u hu=> ?_⟩
 ·simp only[Option.map_some,Addr.add];by_cases hz:k*size=0
  ·rw[if_pos hz,hz];rfl
  rw[if_neg hz]
 rw[List.getElem?_drop] at hu;rw[ak7];exact hr _ u hu
theorem aif.sub {w:World}{A:Option Addr}{n c:Nat}{ws:List P3}(h:aif w A n ws)(hc:n<=c)(k:Nat)(z:Int)(hz:z=(k:Int))(hk:k<=n):
  ∃A',(∀w',(Instr.slice 119 (.slice A n c) (some (.int .i64 z)) none none).run Tryz.prog w'= .ok (.slice A' (n - k) (c - k)) w')/\RdT w 124 A' (n - k) 3 (dA (ws.drop k))/\(∀x∈ws.drop k,x.2.2.length<=800000000):=
 ⟨_,fun w'=>OC Tryz.underlying119 Xm A n c k z hz hk w',by rw[WA];exact h.rd.sub hk hc,fun x hx=>h.len x (List.mem_of_mem_drop hx)⟩
theorem Ak (ws:List P3)(k:Nat):af (ws.drop k)=(af ws).drop k:=by simp[af,List.map_drop]
theorem jA {ws:List P3}{t:B}{l:List B}(h:af ws=t::l):af (ws.drop 1)=l:=by rw[Ak,h];rfl
theorem yF {ws:List P3}(pr:B->Bool):ws.all (fun x=>pr x.2.2)=(af ws).all pr:=by simp[af,List.all_map,Function.comp_def]
attribute [-go_sem] Builtin.append_
def n9 (k:Nat):Nat:=k+1
theorem Cb {gl:Gl}(h:∀t n,gl.lookup t=some n->n<=1000000000)(t:B):I64 (fF gl t):=by
 unfold fF I64;cases hl:gl.lookup t with
 |none=>exact⟨by decide,by decide⟩
 |some n=>have:=h t n hl;simp only[Option.getD_some];exact⟨by omega,by omega⟩
theorem Xq (gl:Gl)(s:PS)(l:List B)(h:l.length≠2):qO gl s l= .error 22:=by
 unfold qO;split
 ·simp at h
 rfl
theorem Nc (w:World)(Bd p gm cm:Nat)(gl:Gl)(s:PS)(rv:Rows)(K:Nat)(A:Option Addr)(n c:Nat)(ws:List P3)(t:B)(l:List B)(hP:PSt w Bd p gm cm gl s rv K)(hL:aif w A n ws)(hT:af ws=t::l)(hK:K<=10000000000):
  Calls Tryz.prog 86 #[.pointer (some ⟨p,0,none⟩),.slice A n c] w (ahS w Bd p gm cm gl (K+n) (qO gl s l)):=by
 have hn:n=l.length+1:=by rw[<-hL.length];exact dE hT
 have hB:=hP.size;by_cases h1:l.length=2
 ·obtain⟨t1,t2,rfl⟩:∃t1 t2,l=[t1,t2]:=by
   match l,h1 with
   |[a1,a2],_=>exact⟨a1,a2,rfl⟩
  obtain⟨b,o,rfl,hb,q1,hz1⟩:=hL.word (k:=1) (t:=t1) (by rw[hT];rfl) (d:=3) rfl;obtain⟨b',o',e',-,q2,hz2⟩:=hL.word (k:=2) (t:=t2) (by rw[hT];rfl) (d:=6) rfl;obtain⟨rfl,rfl⟩:b=b'/\o=o':=by simpa using e'
  clear e';simp only[aF,ln] at hn;subst hn;have HP:=hd0 hP;have hpb:p<w.heap.size:=hP.par.lt;obtain⟨A0,c0,hv⟩:=hP.slice (i:=1) (by decide);have kp:w.cell? ⟨p,2,none⟩=some (rv 1).v:=hP.par.cell 2;rw[hv] at kp;have fp:=hP.par.frozen 2;have hfew:=hP.few 1 (by decide);have HR:Hid (qO gl s [t1,t2]=fin (jB gl (aG 0 t1) t2) {s with f:= {s.f with chars:=s.f.chars++[⟨aA t1,fF gl t2⟩]}}):=rfl;have uS:=hd0 (fun w rb er h=>dK w rb p er t1 h hz1);have HI1:=hd0 (dG t1);have uD:=hd0 (fun w rb er h hm=>xP w rb p gm gl er t2 h hm);have HI2:=hd0 (Cb hP.glI t2);generalize aA t1=v1 at*
  generalize fF gl t2=v2 at*
  clear hP hL hT h1 hz1 hz2;go_enter Tryz.func86,Tryz.ntmps86
  go_wp2_with fail
  refine(fZ w p).mono ?_;rintro e w1 ⟨rfl,hr1,hb1⟩;obtain⟨hc1,hf1⟩:=aj hb1;have KL:w1.cell? ⟨b,o+3+2,none⟩=some (.string ⟨t1.toArray⟩):=(hc1 _ _ hb).trans q1;have hl1:=hr1.lt;have hs1:=hb1.size;have hbl:b<w1.heap.size:=by omega
  have hbc:b≠w1.heap.size:=by omega
  have hpc:p≠w1.heap.size:=by omega
  have jV:=hd0 (hr1.alloc (.cells #[.int .i64 0,.int .i64 0] 93));have Hb1:=hd0 (hb1.alloc hs1 (.cells #[.int .i64 0,.int .i64 0] 93));have oL:Hid (Bk (w1.alloc (.cells #[.int .i64 0,.int .i64 0] 93)) w1.heap.size 93 #[.int .i64 0,.int .i64 0]):=Bk.new _ _ _;clear hr1 hb1;go_wp2_with fail
  refine(uS.out _ _ _ (by exact jV.out)).mono ?_;rintro e w2 ⟨rfl,hr2,hg2⟩;have hb2:=aU Hb1.out hg2 (nr _);obtain⟨hc2,hf2⟩:=aj hb2;have hk2:Bk w2 w1.heap.size 93 #[.int .i64 0,.int .i64 0]:=Bk.kept2 hg2 oL.out (by omega);have Ae:w2.cell? ⟨w1.heap.size,0,none⟩=some (.int .i64 0):=hk2.cell 0;have aaG:w2.cell? ⟨w1.heap.size,1,none⟩=some (.int .i64 0):=hk2.cell 1;have y2:=hk2.frozen 0;have hs2:=hk2.lt;have QB:w2.cell? ⟨b,o+6+2,none⟩=some (.string ⟨t2.toArray⟩):=(hc2 _ _ hb).trans q2;have lm:Hid (Rdr (w2.setCell ⟨w1.heap.size,0,none⟩ (.int .i64 v1)) w.heap.size p (aG 0 t1)):=Bk.far hr2 (by simp;omega) _;have Hb2:=hd0 (hb2.setCell (p:=⟨w1.heap.size,0,none⟩) (by simp;omega) (.int .i64 v1));have mi:Hid (Bk (w2.setCell ⟨w1.heap.size,0,none⟩ (.int .i64 v1)) w1.heap.size 93 #[.int .i64 v1,.int .i64 0]):=hk2.set 0 _;clear hr2 hg2 hb2 hk2 hc1 hf1;go_wp2_with fail
  refine(uD.out _ _ _ (by exact lm.out) (by exact(HP.out.below Hb2.out).at.gm)).mono ?_;rintro e w3 ⟨rfl,hr3,hg3⟩;have hb3:=aU Hb2.out hg3 (nr _);obtain⟨hc3,hf3⟩:=aj hb3;have hk3:Bk w3 w1.heap.size 93 #[.int .i64 v1,.int .i64 0]:=Bk.kept2 hg3 mi.out (by omega);have Wu:w3.cell? ⟨w1.heap.size,0,none⟩=some (.int .i64 v1):=hk3.cell 0;have DD:w3.cell? ⟨w1.heap.size,1,none⟩=some (.int .i64 0):=hk3.cell 1;have y3:=hk3.frozen 1;have hs3:=hk3.lt;have lG:Hid (Rdr (w3.setCell ⟨w1.heap.size,1,none⟩ (.int .i64 v2)) w.heap.size p (jB gl (aG 0 t1) t2)):=Bk.far hr3 (by simp;omega) _;have Hb3:=hd0 (hb3.setCell (p:=⟨w1.heap.size,1,none⟩) (by simp;omega) (.int .i64 v2));have nD:Hid (Bk (w3.setCell ⟨w1.heap.size,1,none⟩ (.int .i64 v2)) w1.heap.size 93 #[.int .i64 v1,.int .i64 v2]):=hk3.set 1 _;clear hr3 hg3 hb3 hk3 hc2 hf2;go_wp2_with fail
  obtain⟨W1,hW1⟩:∃W1,w3.setCell ⟨w1.heap.size,1,none⟩ (.int .i64 v2)=W1:=⟨_,rfl⟩
  rw[hW1];have Hr:=lG;have Hb:=Hb3;have eU:=nD;rw[hW1] at Hr Hb eU;have tN:W1.cell? ⟨w1.heap.size,0,none⟩=some (.int .i64 v1):=eU.out.cell 0;have vK:W1.cell? ⟨w1.heap.size,1,none⟩=some (.int .i64 v2):=eU.out.cell 1;have aB:=HP.out.below Hb.out;have vC:W1.cell? ⟨p,2,none⟩=some (.slice A0 (rv 1).n c0):=((aj Hb.out).1 _ _ hpb).trans kp;have zp:p<W1.heap.size:=aB.par.lt;have zc:w1.heap.size<W1.heap.size:=eU.out.lt;have zr:w.heap.size<W1.heap.size:=Hr.out.lt;have hown:=aB.live.own 1 (by decide);rw[hv] at hown;obtain⟨A5,c5,w9,hrun,di,aN,bz⟩:=iE aas 25 W1 Bd _ c0 A0 _ #[.int .i64 v1,.int .i64 v2] rfl hown (by simp[Value.oneCell']) (by omega) (by omega);rw[<-hv] at aN bz;have bI:Bk w9 p jq (dV s rv gm cm):=(aB.row (i:=1) (by decide) (r:=⟨.slice A5 ((rv 1).n+1) c5,_,_⟩) aN di bz).1;have jw:=Bk.grown Hr.out aN (aB.live.own 1 (by decide)) (by decide);have x9:w9.cell? ⟨p,2,none⟩=some (rv 1).v:=bI.cell 2;have y9:=bI.frozen 2;have z9:w9.cell? ⟨w.heap.size,1,none⟩=some (.int .i64 (jB gl (aG 0 t1) t2)):=jw.cell 1;generalize her:jB gl (aG 0 t1) t2=er at*
  have bG:=hd0 (PSt.ajy (m:=1) (K':=K+n9 2) aB aN di bz (ys:=[⟨v1,v2⟩]) rfl (Fl.one (R:=ait) (⟨rfl,HI1.out,HI2.out⟩) rfl) (by unfold n9;simp));have iy:=hd0 ((Hb.out.mono hB).trans (aB.aiA (i:=1) (by decide) aN 2 (.slice A5 ((rv 1).n+1) c5) aB.size));have HQ:=hd0 (KQ.below (cm:=cm) Hb.out);clear hW1 hown di aN bz bI jw aB;go_region
  all_goals
   go_wp2;go_ret
   exact ahS.fin HR.out iy.out (HQ.out.trans bG.out.2) bG.out.1
 have HR:=hd0 (Xq gl s l h1);have e1:((n:Int)==3)=false:=by simp;omega
 have e2:((n:Int) !=3)=true:=by simp;omega
 clear hP hL hT h1 hn;go_enter Tryz.func86,Tryz.ntmps86
 go_wp2;go_ret
 exact ahS.bad HR.out (akl _ _)
theorem WP (gl:Gl)(s:PS)(l:List B)(h:l.length≠4):qZ s l= .error 22:=by
 unfold qZ;split
 ·simp at h
 rfl
theorem Nh (w:World)(Bd p gm cm:Nat)(gl:Gl)(s:PS)(rv:Rows)(K:Nat)(A:Option Addr)(n c:Nat)(ws:List P3)(t:B)(l:List B)(hP:PSt w Bd p gm cm gl s rv K)(hL:aif w A n ws)(hT:af ws=t::l)(hK:K<=10000000000):
  Calls Tryz.prog 74 #[.pointer (some ⟨p,0,none⟩),.slice A n c] w (ahS w Bd p gm cm gl (K+n) (qZ s l)):=by
 have hn:n=l.length+1:=by rw[<-hL.length];exact dE hT
 have hB:=hP.size;by_cases h1:l.length=4
 ·obtain⟨t1,t2,t3,t4,rfl⟩:∃t1 t2 t3 t4,l=[t1,t2,t3,t4]:=by
   match l,h1 with
   |[a1,a2,a3,a4],_=>exact⟨a1,a2,a3,a4,rfl⟩
  obtain⟨b,o,rfl,hb,q1,hz1⟩:=hL.word (k:=1) (t:=t1) (by rw[hT];rfl) (d:=3) rfl;obtain⟨b',o',e',-,q2,hz2⟩:=hL.word (k:=2) (t:=t2) (by rw[hT];rfl) (d:=6) rfl;obtain⟨rfl,rfl⟩:b=b'/\o=o':=by simpa using e'
  clear e';obtain⟨b',o',e',-,q3,hz3⟩:=hL.word (k:=3) (t:=t3) (by rw[hT];rfl) (d:=9) rfl;obtain⟨rfl,rfl⟩:b=b'/\o=o':=by simpa using e'
  clear e';obtain⟨b',o',e',-,q4,IM⟩:=hL.word (k:=4) (t:=t4) (by rw[hT];rfl) (d:=12) rfl;obtain⟨rfl,rfl⟩:b=b'/\o=o':=by simpa using e'
  clear e';simp only[aF,ln] at hn;subst hn;have HP:=hd0 hP;have hpb:p<w.heap.size:=hP.par.lt;obtain⟨A0,c0,hv⟩:=hP.slice (i:=4) (by decide);have kp:w.cell? ⟨p,5,none⟩=some (rv 4).v:=hP.par.cell 5;rw[hv] at kp;have fp:=hP.par.frozen 5;have hfew:=hP.few 4 (by decide);have HR:Hid (qZ s [t1,t2,t3,t4]=fin (aG (aG (aG (bg 0 t1) t2) t3) t4) {s with f:= {s.f with ahQ:=s.f.ahQ++[⟨t1,aA t2,aA t3,aA t4⟩]}}):=rfl;have uS:=hd0 (fun w rb er h=>wP w rb p er t1 h);have uD:=hd0 (fun w rb er h=>dK w rb p er t2 h hz2);have HI2:=hd0 (dG t2);have TY:=hd0 (fun w rb er h=>dK w rb p er t3 h hz3);have HI3:=hd0 (dG t3);have HN4:=hd0 (fun w rb er h=>dK w rb p er t4 h IM);have HI4:=hd0 (dG t4);generalize aA t2=v2 at*
  generalize aA t3=v3 at*
  generalize aA t4=v4 at*
  clear hP hL hT h1 hz1 hz2 hz3 IM;go_enter Tryz.func74,Tryz.ntmps74
  go_wp2_with fail
  refine(fZ w p).mono ?_;rintro e w1 ⟨rfl,hr1,hb1⟩;obtain⟨hc1,hf1⟩:=aj hb1;have KL:w1.cell? ⟨b,o+3+2,none⟩=some (.string ⟨t1.toArray⟩):=(hc1 _ _ hb).trans q1;have hl1:=hr1.lt;have hs1:=hb1.size;have hbl:b<w1.heap.size:=by omega
  have hbc:b≠w1.heap.size:=by omega
  have hpc:p≠w1.heap.size:=by omega
  have jV:=hd0 (hr1.alloc (.cells #[.string ⟨#[]⟩,.int .i64 0,.int .i64 0,.int .i64 0] 99));have Hb1:=hd0 (hb1.alloc hs1 (.cells #[.string ⟨#[]⟩,.int .i64 0,.int .i64 0,.int .i64 0] 99));have oL:Hid (Bk (w1.alloc (.cells #[.string ⟨#[]⟩,.int .i64 0,.int .i64 0,.int .i64 0] 99)) w1.heap.size 99 #[.string ⟨#[]⟩,.int .i64 0,.int .i64 0,.int .i64 0]):=Bk.new _ _ _;clear hr1 hb1;go_wp2_with fail
  refine(uS.out _ _ _ (by exact jV.out)).mono ?_;rintro e w2 ⟨rfl,hr2,hg2⟩;have hb2:=aU Hb1.out hg2 (nr _);obtain⟨hc2,hf2⟩:=aj hb2;have hk2:Bk w2 w1.heap.size 99 #[.string ⟨#[]⟩,.int .i64 0,.int .i64 0,.int .i64 0]:=Bk.kept2 hg2 oL.out (by omega);have Ae:w2.cell? ⟨w1.heap.size,0,none⟩=some (.string ⟨#[]⟩):=hk2.cell 0;have aaG:w2.cell? ⟨w1.heap.size,1,none⟩=some (.int .i64 0):=hk2.cell 1;have adx:w2.cell? ⟨w1.heap.size,2,none⟩=some (.int .i64 0):=hk2.cell 2;have ag7:w2.cell? ⟨w1.heap.size,3,none⟩=some (.int .i64 0):=hk2.cell 3;have y2:=hk2.frozen 0;have hs2:=hk2.lt;have QB:w2.cell? ⟨b,o+6+2,none⟩=some (.string ⟨t2.toArray⟩):=(hc2 _ _ hb).trans q2;have adw:w2.cell? ⟨b,o+9+2,none⟩=some (.string ⟨t3.toArray⟩):=(hc2 _ _ hb).trans q3;have afX:w2.cell? ⟨b,o+12+2,none⟩=some (.string ⟨t4.toArray⟩):=(hc2 _ _ hb).trans q4;have lm:Hid (Rdr (w2.setCell ⟨w1.heap.size,0,none⟩ (.string ⟨t1.toArray⟩)) w.heap.size p (bg 0 t1)):=Bk.far hr2 (by simp;omega) _;have Hb2:=hd0 (hb2.setCell (p:=⟨w1.heap.size,0,none⟩) (by simp;omega) (.string ⟨t1.toArray⟩));have mi:Hid (Bk (w2.setCell ⟨w1.heap.size,0,none⟩ (.string ⟨t1.toArray⟩)) w1.heap.size 99 #[.string ⟨t1.toArray⟩,.int .i64 0,.int .i64 0,.int .i64 0]):=hk2.set 0 _;clear hr2 hg2 hb2 hk2 hc1 hf1;go_wp2_with fail
  refine(uD.out _ _ _ (by exact lm.out)).mono ?_;rintro e w3 ⟨rfl,hr3,hg3⟩;have hb3:=aU Hb2.out hg3 (nr _);obtain⟨hc3,hf3⟩:=aj hb3;have hk3:Bk w3 w1.heap.size 99 #[.string ⟨t1.toArray⟩,.int .i64 0,.int .i64 0,.int .i64 0]:=Bk.kept2 hg3 mi.out (by omega);have Wu:w3.cell? ⟨w1.heap.size,0,none⟩=some (.string ⟨t1.toArray⟩):=hk3.cell 0;have DD:w3.cell? ⟨w1.heap.size,1,none⟩=some (.int .i64 0):=hk3.cell 1;have aeG:w3.cell? ⟨w1.heap.size,2,none⟩=some (.int .i64 0):=hk3.cell 2;have agb:w3.cell? ⟨w1.heap.size,3,none⟩=some (.int .i64 0):=hk3.cell 3;have y3:=hk3.frozen 1;have hs3:=hk3.lt;have adD:w3.cell? ⟨b,o+9+2,none⟩=some (.string ⟨t3.toArray⟩):=(hc3 _ _ hb).trans q3;have agh:w3.cell? ⟨b,o+12+2,none⟩=some (.string ⟨t4.toArray⟩):=(hc3 _ _ hb).trans q4;have lG:Hid (Rdr (w3.setCell ⟨w1.heap.size,1,none⟩ (.int .i64 v2)) w.heap.size p (aG (bg 0 t1) t2)):=Bk.far hr3 (by simp;omega) _;have Hb3:=hd0 (hb3.setCell (p:=⟨w1.heap.size,1,none⟩) (by simp;omega) (.int .i64 v2));have nD:Hid (Bk (w3.setCell ⟨w1.heap.size,1,none⟩ (.int .i64 v2)) w1.heap.size 99 #[.string ⟨t1.toArray⟩,.int .i64 v2,.int .i64 0,.int .i64 0]):=hk3.set 1 _;clear hr3 hg3 hb3 hk3 hc2 hf2;go_wp2_with fail
  refine(TY.out _ _ _ (by exact lG.out)).mono ?_;rintro e w4 ⟨rfl,hr4,hg4⟩;have hb4:=aU Hb3.out hg4 (nr _);obtain⟨hc4,hf4⟩:=aj hb4;have hk4:Bk w4 w1.heap.size 99 #[.string ⟨t1.toArray⟩,.int .i64 v2,.int .i64 0,.int .i64 0]:=Bk.kept2 hg4 nD.out (by omega);have aaz:w4.cell? ⟨w1.heap.size,0,none⟩=some (.string ⟨t1.toArray⟩):=hk4.cell 0;have ae8:w4.cell? ⟨w1.heap.size,1,none⟩=some (.int .i64 v2):=hk4.cell 1;have afo:w4.cell? ⟨w1.heap.size,2,none⟩=some (.int .i64 0):=hk4.cell 2;have ahB:w4.cell? ⟨w1.heap.size,3,none⟩=some (.int .i64 0):=hk4.cell 3;have y4:=hk4.frozen 2;have hs4:=hk4.lt;have agD:w4.cell? ⟨b,o+12+2,none⟩=some (.string ⟨t4.toArray⟩):=(hc4 _ _ hb).trans q4;have Tj:Hid (Rdr (w4.setCell ⟨w1.heap.size,2,none⟩ (.int .i64 v3)) w.heap.size p (aG (aG (bg 0 t1) t2) t3)):=Bk.far hr4 (by simp;omega) _;have Hb4:=hd0 (hb4.setCell (p:=⟨w1.heap.size,2,none⟩) (by simp;omega) (.int .i64 v3));have Io:Hid (Bk (w4.setCell ⟨w1.heap.size,2,none⟩ (.int .i64 v3)) w1.heap.size 99 #[.string ⟨t1.toArray⟩,.int .i64 v2,.int .i64 v3,.int .i64 0]):=hk4.set 2 _;clear hr4 hg4 hb4 hk4 hc3 hf3;go_wp2_with fail
  refine(HN4.out _ _ _ (by exact Tj.out)).mono ?_;rintro e w5 ⟨rfl,nC,hg5⟩;have hb5:=aU Hb4.out hg5 (nr _);obtain⟨hc5,hf5⟩:=aj hb5;have hk5:Bk w5 w1.heap.size 99 #[.string ⟨t1.toArray⟩,.int .i64 v2,.int .i64 v3,.int .i64 0]:=Bk.kept2 hg5 Io.out (by omega);have ags:w5.cell? ⟨w1.heap.size,0,none⟩=some (.string ⟨t1.toArray⟩):=hk5.cell 0;have agM:w5.cell? ⟨w1.heap.size,1,none⟩=some (.int .i64 v2):=hk5.cell 1;have ag0:w5.cell? ⟨w1.heap.size,2,none⟩=some (.int .i64 v3):=hk5.cell 2;have af7:w5.cell? ⟨w1.heap.size,3,none⟩=some (.int .i64 0):=hk5.cell 3;have y5:=hk5.frozen 3;have hs5:=hk5.lt;have OJ:Hid (Rdr (w5.setCell ⟨w1.heap.size,3,none⟩ (.int .i64 v4)) w.heap.size p (aG (aG (aG (bg 0 t1) t2) t3) t4)):=Bk.far nC (by simp;omega) _;have Hb5:=hd0 (hb5.setCell (p:=⟨w1.heap.size,3,none⟩) (by simp;omega) (.int .i64 v4));have Ov:Hid (Bk (w5.setCell ⟨w1.heap.size,3,none⟩ (.int .i64 v4)) w1.heap.size 99 #[.string ⟨t1.toArray⟩,.int .i64 v2,.int .i64 v3,.int .i64 v4]):=hk5.set 3 _;clear nC hg5 hb5 hk5 hc4 hf4;go_wp2_with fail
  obtain⟨W1,hW1⟩:∃W1,w5.setCell ⟨w1.heap.size,3,none⟩ (.int .i64 v4)=W1:=⟨_,rfl⟩
  rw[hW1];have Hr:=OJ;have Hb:=Hb5;have eU:=Ov;rw[hW1] at Hr Hb eU;have tN:W1.cell? ⟨w1.heap.size,0,none⟩=some (.string ⟨t1.toArray⟩):=eU.out.cell 0;have vK:W1.cell? ⟨w1.heap.size,1,none⟩=some (.int .i64 v2):=eU.out.cell 1;have yV:W1.cell? ⟨w1.heap.size,2,none⟩=some (.int .i64 v3):=eU.out.cell 2;have Bc:W1.cell? ⟨w1.heap.size,3,none⟩=some (.int .i64 v4):=eU.out.cell 3;have aB:=HP.out.below Hb.out;have vC:W1.cell? ⟨p,5,none⟩=some (.slice A0 (rv 4).n c0):=((aj Hb.out).1 _ _ hpb).trans kp;have zp:p<W1.heap.size:=aB.par.lt;have zc:w1.heap.size<W1.heap.size:=eU.out.lt;have zr:w.heap.size<W1.heap.size:=Hr.out.lt;have hown:=aB.live.own 4 (by decide);rw[hv] at hown;obtain⟨A5,c5,w9,hrun,di,aN,bz⟩:=iE acB 28 W1 Bd _ c0 A0 _ #[.string ⟨t1.toArray⟩,.int .i64 v2,.int .i64 v3,.int .i64 v4] rfl hown (by simp[Value.oneCell']) (by omega) (by omega);rw[<-hv] at aN bz;have bI:Bk w9 p jq (dV s rv gm cm):=(aB.row (i:=4) (by decide) (r:=⟨.slice A5 ((rv 4).n+1) c5,_,_⟩) aN di bz).1;have jw:=Bk.grown Hr.out aN (aB.live.own 4 (by decide)) (by decide);have x9:w9.cell? ⟨p,5,none⟩=some (rv 4).v:=bI.cell 5;have y9:=bI.frozen 5;have z9:w9.cell? ⟨w.heap.size,1,none⟩=some (.int .i64 (aG (aG (aG (bg 0 t1) t2) t3) t4)):=jw.cell 1;generalize her:aG (aG (aG (bg 0 t1) t2) t3) t4=er at*
  have bG:=hd0 (PSt.ajA (m:=1) (K':=K+n9 4) aB aN di bz (ys:=[⟨t1,v2,v3,v4⟩]) rfl (Fl.one (R:=aij) (⟨rfl,HI2.out,HI3.out,HI4.out⟩) rfl) (by unfold n9;simp));have iy:=hd0 ((Hb.out.mono hB).trans (aB.aiA (i:=4) (by decide) aN 5 (.slice A5 ((rv 4).n+1) c5) aB.size));have HQ:=hd0 (KQ.below (cm:=cm) Hb.out);clear hW1 hown di aN bz bI jw aB;go_region
  all_goals
   go_wp2;go_ret
   exact ahS.fin HR.out iy.out (HQ.out.trans bG.out.2) bG.out.1
 have HR:=hd0 (WP gl s l h1);have e1:((n:Int)==5)=false:=by simp;omega
 have e2:((n:Int) !=5)=true:=by simp;omega
 clear hP hL hT h1 hn;go_enter Tryz.func74,Tryz.ntmps74
 go_wp2;go_ret
 exact ahS.bad HR.out (akl _ _)
end
section
theorem ZQ (w:World)(a b c:Int):Calls Tryz.prog 117 #[.agg #[.int .i64 a,.int .i64 b,.int .i64 c]] w (OkB w (-64<=a/\a<=b/\b<=c/\c<=64)):=by
 obtain⟨P,HP⟩:∃P:Prop,Hid (P=(-64<=a/\a<=b/\b<=c/\c<=64)):=⟨_,rfl⟩
 rw[<-HP.out];go_enter Tryz.func117,Tryz.ntmps117
 by_cases h1:a< -64
 ·go_wp2_with fail
  go_ret
  exact OkB.bad ((akl _ _).alloc (nr _) _)
 by_cases h2:b<a
 ·go_wp2_with fail
  go_ret
  exact OkB.bad ((akl _ _).alloc (nr _) _)
 by_cases h3:c<b
 ·go_wp2_with fail
  go_ret
  exact OkB.bad ((akl _ _).alloc (nr _) _)
 by_cases h4:64<c
 ·go_wp2_with fail
  go_ret
  exact OkB.bad ((akl _ _).alloc (nr _) _)
 have HG:=hd0 (HP.out.mpr ⟨by omega,by omega,by omega,by omega⟩);go_wp2_with fail
 all_goals (go_ret;exact OkB.good HG.out _ ((akl _ _).alloc (nr _) _))
theorem VR (w:World)(b:Nat)(r:List Int)(hr:Bk w b 37 (aW r).toArray)(hl:r.length=4):Calls Tryz.prog 153 #[.slice (some ⟨b,0,none⟩) 4 4] w (OkE w (∀x∈r,x=0)):=by
 obtain⟨P,HP⟩:∃P:Prop,Hid (P=(∀x∈r,x=0)):=⟨_,rfl⟩
 rw[<-HP.out];have HR:=hd0 hr;clear hr;go_enter Tryz.func153,Tryz.ntmps153
 go_wp2_with fail
 go_loopw [3] (fun i wr=>∃k:Nat,k<=4/\i= .int .i64 k/\Hid (Up r k (fun x=>x=0))/\w=wr) (fun i _=>4 - (intOf i).toNat)
 case atStart=>exact⟨0,by omega,rfl,hd0 (Up.zero _ _),rfl⟩
 case round=>
  obtain⟨k,hk,rfl,hup,rfl⟩:=hrel;by_cases hlt:k<4
  ·obtain⟨x,hx⟩:∃x,r[k]? =some x:=⟨_,ako (by omega)⟩
   have q0:w.cell? ⟨b,k,none⟩=some (.int .i64 x):=by rw[HR.out.cell k,<-Array.getElem?_toList];exact Fq _ _ _ hx
   by_cases h0:x=0
   ·have dm:=hd0 (hup.out.snoc hx h0);subst h0;clear hx;go_wp2_with fail
    go_roundw
    case rel=>exact⟨k+1,by omega,by simp,dm,by trivial⟩
    case measure=>simp[intOf];omega
   have e0:(x !=0)=true:=by simpa using h0
   go_wp2_with fail
   go_ret
   exact OkE.bad x h0 (akl _ _)
  obtain rfl:k=4:=by omega
  have HU:=hd0 (fun x (h:x∈r)=>(hup.out x (by rw[<-hl,akr];exact h)));have e4:((4:Nat):Int)=4:=rfl;rw[e4];go_wp2_with fail
  go_ret
  exact OkE.good (HP.out.mpr HU.out) (akl _ _)
theorem MH (w:World)(s:B)(hs:s.length<=10000000000000):Calls Tryz.prog 115 #[.string ⟨s.toArray⟩] w (OkB w (nameB s=true)):=by
 obtain⟨P,HP⟩:∃P:Prop,Hid (P=(nameB s=true)):=⟨_,rfl⟩
 rw[<-HP.out];go_enter Tryz.func115,Tryz.ntmps115
 go_wp2_with fail
 go_loopw [3] (fun i wr=>∃k:Nat,k<=s.length/\i= .int .i64 k/\Hid (∀j c,j<k->s[j]? =some c->nameAt j c=true)/\w=wr) (fun i _=>s.length - (intOf i).toNat)
 case atStart=>exact⟨0,by omega,rfl,hd0 (by omega),rfl⟩
 case round=>
  obtain⟨k,hk,rfl,hall,rfl⟩:=hrel;by_cases hlt:k<s.length
  ·obtain⟨c,hc⟩:∃c,s[k]? =some c:=⟨_,ako hlt⟩
   have hb:=byte_at s k c hc hlt;have hend:Hid (nameAt k c=true->∀j d,j<k+1->s[j]? =some d->nameAt j d=true):=by
    intro hn j d hj hd;by_cases hjk:j=k
    ·subst hjk;rw[hc] at hd;cases hd;exact hn
    exact hall.out j d (by omega) hd
   clear hc;go_wp2_with fail
   all_goals first
    |(go_ret;exact OkB.bad (akl _ _))
    |((try simp only[Bool.not_eq_eq_eq_not,Bool.not_false,beq_iff_eq,beq_eq_false_iff_ne,bne_iff_ne,bne_eq_false_iff_eq,ali,ne_eq] at*);refine⟨⟨k+1,by omega,by first|(simp;done)|(simp;omega),hd0 (hend.out ((nZ k c).2 ?_)),trivial⟩,by simp[intOf]<;>omega⟩;omega)
    |(exfalso;rename_i q1 q2 q3;have q4:(c.toNat:Int)<48:=(by omega);rw[if_pos q4] at q1;simp only[akM,Value.bool.injEq] at q1;exact q2 q1.symm)
  obtain rfl:k=s.length:=by omega
  have hf:=hd0 (zu s hall.out);go_wp2_with fail
  all_goals
   go_ret
   refine⟨_,rfl,fun hb=> ?_,akl _ _⟩;rw[HP.out,hf.out];have hb2:s≠[]/\s.length<=16:=by
    revert hb
    cases s with
    |nil=>simp
    |cons a r=>first|(simp;done)|(simp;omega)
   refine decide_eq_true ⟨ale.2 hb2.1,hb2.2⟩
end
end Go.Proofs.YtkijckccfookeaaGreatDoor
