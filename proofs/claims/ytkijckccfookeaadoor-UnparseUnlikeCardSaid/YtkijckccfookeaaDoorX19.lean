/- Lemmas. -/
import Derived.Test.YtkijckccfookeaaDoorX18
set_option linter.unusedVariables false
set_option linter.unusedSimpArgs false
set_option maxRecDepth 100000
set_option maxHeartbeats 32000000
namespace Go.Proofs.YtkijckccfookeaaDoor
open Go.RowKit
theorem KX {w Wa:World}{g:Nat}{t:TypeId}{C0 C1 C2:Option Addr}{e0 e1 e2:Nat}{r:ae4}(h0:Sl aeR 1 w (Lw w) C0 r.back)(h1:Sl aeR 1 w (Lw w) C1 r.in')(h2:Sl aeR 1 w (Lw w) C2 r.ahead)(hB:afS r/\∀s∈r.back++r.in'++r.ahead,Big s.length)
  (hk:Bk Wa g t #[.slice C0 r.back.length e0,.slice C1 r.in'.length e1,.slice C2 r.ahead.length e2]) (hb:Below w.heap.size w Wa) (q:Nat) (hq:q<3):∃rows C e,Sl aeR 1 Wa (Lw Wa) C rows/\Wa.cell? ⟨g,q,none⟩=some (.slice C rows.length e)/\rows.length<=10000000000000/\∀s∈rows,s.length<=10000000000000:=by
 obtain⟨⟨b0,b1,b2,-,-⟩,b5⟩:=hB;rcases q with _|_|_|q
 ·exact⟨r.back,C0,e0,h0.lw aeR.ok hb,hk.cell 0,b0,fun s hs=>b5 s (by simp[hs])⟩
 ·exact⟨r.in',C1,e1,h1.lw aeR.ok hb,hk.cell 1,b1,fun s hs=>b5 s (by simp[hs])⟩
 ·exact⟨r.ahead,C2,e2,h2.lw aeR.ok hb,hk.cell 2,b2,fun s hs=>b5 s (by simp[hs])⟩
 omega
theorem Nl (w:World)(A:Option Addr)(c:Nat)(l:List ae4)(h:Sl ae8 6 w (Lw w) A l)(hn:Big l.length)(hB:∀r∈l,afS r/\∀s∈r.back++r.in'++r.ahead,Big s.length):Calls Tryd.prog 30 #[.slice A l.length c] w fun e w'=>∃z:Int,e= .returned (.int .i64 z)/\0<=z/\z<=30000000000000/\Below w.heap.size w w':=by
 have H:=hd0 h;have HB:=hd0 hB;unfold Big at hn;clear h hB;go_enter Tryd.func30,Tryd.ntmps30
 go_wp2_with fail
 go_loopw [3,4] (fun n i wr=>∃(k:Nat) (z:Int),k<=l.length/\n= .int .i64 z/\i= .int .i64 k/\0<=z/\z<=30000000000000/\Below w.heap.size w wr) (fun _ i _=>l.length - (intOf i).toNat)
 case atStart=>exact⟨0,l.length,by omega,rfl,rfl,by omega,by omega,agE _ _⟩
 case round=>
  obtain⟨k,z,hk,rfl,rfl,hz0,hz1,hb⟩:=hrel;have gq:=hd0 hb;clear hb;by_cases hlt:k<l.length
  ·have bk:decide ((k:Int)<(l.length:Int))=true:=decide_eq_true (by omega);by_cases hz:z<=2000
   ·have bz:decide (z<=2000)=true:=decide_eq_true hz;obtain⟨b,o,r,C0,e0,C1,e1,C2,e2,C3,e3,C4,e4,rfl,hbl,hx,q0,q1,q2,q3,q4,q5,-,s0,s1,s2,s3,s4⟩:=(H.out.lw ae8.ok gq.out).rule hlt;have hR:=HB.out r (agM hx.out);have HR:=hd0 hR;obtain⟨⟨-,-,-,y3,y4⟩,-⟩:=hR;unfold Big at y3 y4;obtain⟨Wr,jW,hbr,hkr⟩:=aB wr 78 #[.slice C0 r.back.length e0,.slice C1 r.in'.length e1,.slice C2 r.ahead.length e2,.slice C3 r.out.length e3,.slice C4 r.calls.length e4,.int .i64 r.x];have m0:=hkr.cell 0;have m1:=hkr.cell 1;have m2:=hkr.cell 2;have m3:=hkr.cell 3;have m4:=hkr.cell 4;have S0:=hd0 s0;have S1:=hd0 s1;have S2:=hd0 s2;have jH:=hd0 hbr;clear hbl hx s0 s1 s2 s3 s4 hbr hkr;go_wp2_with fail
    try clear jW
    clear m0 m1 m2 m3 m4 q0 q1 q2 q3 q4 q5;obtain⟨Wa,hWa,hba,hka⟩:=aB Wr 75 #[.slice C0 r.back.length e0,.slice C1 r.in'.length e1,.slice C2 r.ahead.length e2];rw[hWa];have HBa:Hid (Below wr.heap.size wr Wa):=hd0 (jH.out.trans (hba.mono jH.out.size));have H3:=hd0 (fun q hq=>KX S0.out S1.out S2.out HR.out hka HBa.out q hq);have HE:Hid (Below w.heap.size w Wa):=hd0 (gq.out.trans (HBa.out.mono gq.out.size));clear hWa hba hka;go_loopw [3,7] (fun n i wv=>∃(q:Nat) (u:Int),q<=3/\n= .int .i64 u/\i= .int .i64 q/\0<=u/\u<=30000000000000/\Wa=wv) (fun _ i _=>3 - (intOf i).toNat)
    case atStart=>exact⟨0,_,by omega,rfl,rfl,by omega,by omega,rfl⟩
    case round=>
     obtain⟨q,u,hq,rfl,rfl,hu0,hu1,rfl⟩:=hrel;by_cases hq3:q<3
     ·have bq:decide ((q:Int)<3)=true:=decide_eq_true (by omega);obtain⟨rows,C,e,Em,hcr,hlr,hlx⟩:=H3.out q hq3;have HSR:=hd0 Em;have HLX:=hd0 hlx;clear Em hlx;go_wp2_with fail
      go_loopw [3,8] (fun n i wv=>∃(j:Nat) (v:Int),j<=rows.length/\n= .int .i64 v/\i= .int .i64 j/\0<=v/\v<=30000000000000/\Wa=wv) (fun _ i _=>rows.length - (intOf i).toNat)
      case atStart=>exact⟨0,u,by omega,rfl,rfl,hu0,hu1,rfl⟩
      case round=>
       obtain⟨j,v,hj,rfl,rfl,hv0,hv1,rfl⟩:=hrel;by_cases hjl:j<rows.length
       ·have bj:decide ((j:Int)<(rows.length:Int))=true:=decide_eq_true (by omega);by_cases hv:v<=2000
        ·have bv:decide (v<=2000)=true:=decide_eq_true hv;obtain⟨b9,o9,x9,B9,t9,rfl,jO,hx9,p0,-⟩:=HSR.out.row hjl;have rE:=HLX.out x9 (agM hx9.out);clear jO hx9;go_wp2_with fail
         go_roundw
         case rel=>exact⟨j+1,_,by omega,rfl,by simp,by omega,by omega,by trivial⟩
         case measure=>simp[intOf];omega
        have bv:decide (v<=2000)=false:=decide_eq_false hv;go_wp2_with fail
        go_roundw
        case rel=>exact⟨q+1,v,by omega,rfl,by simp,hv0,hv1,by trivial⟩
        case measure=>simp[intOf];omega
       have bj:decide ((j:Int)<(rows.length:Int))=false:=decide_eq_false (by omega);go_wp2_with fail
       go_roundw
       case rel=>exact⟨q+1,v,by omega,rfl,by simp,hv0,hv1,by trivial⟩
       case measure=>simp[intOf];omega
     have bq:decide ((q:Int)<3)=false:=decide_eq_false (by omega);go_wp2_with fail
     go_roundw
     case rel=>exact⟨k+1,u,by omega,rfl,by simp,hu0,hu1,HE.out⟩
     case measure=>simp[intOf];omega
   have bz:decide (z<=2000)=false:=decide_eq_false hz;go_wp2_with fail
   go_ret
   exact⟨z,rfl,hz0,hz1,gq.out⟩
  have bk:decide ((k:Int)<(l.length:Int))=false:=decide_eq_false (by omega);go_wp2_with fail
  go_ret
  exact⟨z,rfl,hz0,hz1,gq.out⟩
def MC (p:List Ins):Prop:=p.length<=200/\jr p
abbrev oO:TypeId:=107
def Aj (w:World)(P:Prop)(e:Ending)(w':World):Prop:=∃r a:Int,e= .returned (.agg #[.int .i64 r,.int .i64 a])/\(r=0->P)/\Below w.heap.size w w'
theorem UX:(Tryd.prog.info? oO).map (·.size)=some 2:=by kernel_rfl
theorem Ji {fn:Func}(h:fn.results= #[.cell 2 oO]){W:World}{g:Nat}{a b:Value}{tmps:Array Value}(hb:Bk W g oO #[a,b])(h2:tmps.getD 2 undef= .pointer (some ⟨g,0,none⟩)):(results fn tmps).run Tryd.prog W= .ok (.agg #[a,b]) W:=by
 have h3:(results fn tmps).run Tryd.prog W=((asAddr (tmps.getD 2 undef)).run Tryd.prog W).andThen fun a w₁=>((loadVar oO a).run Tryd.prog w₁):=by simp only[results,h];simp[Sem.run_bind,Result.andThen]
 rw[h3,h2];have:=run_loadVar_row (P:=Tryd.prog) W g oO oO #[a,b] (0,0) _ hb Tryd.underlying107 rfl (by rw[UX];rfl);simp[asAddr,Result.andThen,this]
theorem aT {fn:Func}(h:fn.results= #[.cell 2 oO]){w W Wg:World}{P:Prop}{g:Nat}{x y:Value}(hk:Bk Wg g oO #[x,y])(hb:Below Wg.heap.size Wg W)(hg:w.heap.size<=g)(hw:Below w.heap.size w W)(r a:Int){tmps:Array Value}(h2:tmps.getD 2 undef= .pointer (some ⟨g,0,none⟩))(hP:r=0->P):
  bodyPost Tryd.prog fn (Aj w P) Exit.ret {tmps:=tmps,defers:=[]} ((W.setCell ⟨g,0,none⟩ (.int .i64 r)).setCell ⟨g,1,none⟩ (.int .i64 a)):=by
 have h1:Bk ((W.setCell ⟨g,0,none⟩ (.int .i64 r)).setCell ⟨g,1,none⟩ (.int .i64 a)) g oO #[.int .i64 r,.int .i64 a]:=by have:=((hk.bel hb).set 0 (.int .i64 r)).set 1 (.int .i64 a);simpa using this
 exact bodyPost_ret (Ji h h1 h2) rfl ⟨r,a,rfl,hP,(hw.setCell hg _).setCell hg _⟩
theorem Oy (w:World)(f:Fnt)(A1 A2 A3 A4 A5 A6 A7 A8:Option Addr)(c1 c2 c3 c4 c5 c6 c7 c8:Nat)(hF:FIn ⟨A1,c1,A2,c2,A3,c3,A4,c4,A5,c5,A6,c6,A7,c7,A8,c8⟩ f w)(hn:Big f.funcs.length)(hm:Big f.cvt.length)(hl:∀p∈f.funcs,Big p.length):Calls Tryd.prog 59 #[.agg #[.int .i64 f.unit,.slice A1 f.aeN.length c1,.slice A2 f.chars.length c2,.slice A3 f.aeO.length c3,.slice A4 f.features.length c4,.slice A5 f.aeP.length c5,.slice A6 f.regions.length c6,.slice A7 f.funcs.length c7,.slice A8 f.cvt.length c8]] w (Aj w ((f.funcs.length<=20/\∀p∈f.funcs,MC p)/\f.cvt.length<=64/\∀n∈f.cvt,N9 n)):=by
 obtain⟨P,HP⟩:∃P:Prop,Hid (P=((f.funcs.length<=20/\∀p∈f.funcs,MC p)/\f.cvt.length<=64/\∀n∈f.cvt,N9 n)):=⟨_,rfl⟩
 rw[<-HP.out];unfold Big at hn hm;obtain⟨Wf,hWf,hbf,bD⟩:=aB w 32 #[.int .i64 f.unit,.slice A1 f.aeN.length c1,.slice A2 f.chars.length c2,.slice A3 f.aeO.length c3,.slice A4 f.features.length c4,.slice A5 f.aeP.length c5,.slice A6 f.regions.length c6,.slice A7 f.funcs.length c7,.slice A8 f.cvt.length c8];have aS:Hid (Below w.heap.size w Wf):=hd0 hbf;have iM:=hd0 bD;have jK:=hd0 (hF.below hbf);obtain⟨Wg,kZ,hbg,hkg⟩:=aB Wf 107 #[.int .i64 0,.int .i64 0];have bV:Hid (Below w.heap.size w Wg):=hd0 (aS.out.trans (hbg.mono aS.out.size));have aj:=hd0 hkg;have aG:Hid (Bk Wg w.heap.size 32 #[.int .i64 f.unit,.slice A1 f.aeN.length c1,.slice A2 f.chars.length c2,.slice A3 f.aeO.length c3,.slice A4 f.features.length c4,.slice A5 f.aeP.length c5,.slice A6 f.regions.length c6,.slice A7 f.funcs.length c7,.slice A8 f.cvt.length c8]):=hd0 (Bk.bel bD hbg);have HF2:=hd0 (jK.out.below hbg);have hzg:=bV.out.size;have kX:Hid (Below Wg.heap.size Wg Wg):=hd0 (agE _ _);have k7:=aG.out.cell 7;have g0:=hkg.cell 0;have g1:=hkg.cell 1;have z0:=hkg.frozen 0;have z1:=hkg.frozen 1;clear hF hbf bD hbg hkg jK;go_enter Tryd.func59,Tryd.ntmps59
 by_cases h1:20<f.funcs.length
 ·have bh1:decide ((20:Int)<f.funcs.length)=true:=decide_eq_true (by omega);go_wp2_with fail
  exact aT rfl aj.out kX.out aS.out.size bV.out _ _ rfl (fun h=>absurd h (by decide))
 have bh1:decide ((20:Int)<f.funcs.length)=false:=decide_eq_false (by omega);go_wp2_with fail
 try clear hWf
 try clear kZ
 go_loopw [3] (fun i wr=>∃q:Nat,q<=f.funcs.length/\i= .int .i64 q/\Hid (Up f.funcs q MC)/\Below Wg.heap.size Wg wr) (fun i _=>f.funcs.length - (intOf i).toNat)
 case atStart=>exact⟨0,by omega,rfl,hd0 (Up.zero _ _),agE _ _⟩
 case round=>
  obtain⟨w5,rfl⟩:∃x,x=wr:=⟨_,rfl⟩
  obtain⟨q,hq,rfl,hup,hb5⟩:=hrel;have gq:Hid (Below Wg.heap.size Wg w5):=hd0 hb5;have E5:Hid (Below w.heap.size w w5):=hd0 (bV.out.trans (hb5.mono hzg));clear k7;clear g0 g1 z0 z1;have k7:=aG.out.at hb5 7 rfl;have k8:=aG.out.at hb5 8 rfl;have g0:=aj.out.at hb5 0 rfl;have g1:=aj.out.at hb5 1 rfl;have z0:=(aj.out.bel hb5).frozen 0;have z1:=(aj.out.bel hb5).frozen 1;by_cases hlt:q<f.funcs.length
  ·obtain⟨b,o,x,D,t,rfl,hb,hx,q0,s0⟩:=(HF2.out.funcs.lw ae1.ok hb5).code hlt;have HO:=hd0 (JK w5 D t x s0 (hl x (agM hx.out)));clear hb s0 hb5;go_wp2_with fail
   refine HO.out.mono ?_;rintro e w4 ⟨r4,rfl,BI,qY⟩;have hb4:Below Wg.heap.size Wg w4:=gq.out.trans (qY.mono gq.out.size);have HB4:Hid (Below Wg.heap.size Wg w4):=hd0 hb4;have E4:Hid (Below w.heap.size w w4):=hd0 (bV.out.trans (hb4.mono hzg));clear k7 k8;clear g0 g1 z0 z1;have g0:=aj.out.at hb4 0 rfl;have g1:=aj.out.at hb4 1 rfl;have z0:=(aj.out.bel hb4).frozen 0;have z1:=(aj.out.bel hb4).frozen 1;clear HO hb4 qY;by_cases hr:r4=0
   ·have bY:=hd0 (hup.out.snoc hx.out (BI hr));clear BI;subst hr;go_wp2_with fail
    go_roundw
    case rel=>exact⟨q+1,by omega,by simp,bY,HB4.out⟩
    case measure=>simp[intOf];omega
   clear BI;have Jz:(r4 !=0)=true:=eU hr;go_wp2_with fail
   exact aT rfl aj.out HB4.out aS.out.size E4.out _ _ rfl (fun h=>absurd h hr)
  obtain rfl:q=f.funcs.length:=by omega
  have HU:=hd0 (fun x (hx:x∈f.funcs)=>hup.out.all x hx);clear hup hb5;by_cases h3:64<f.cvt.length
  ·have jJ:decide ((64:Int)<f.cvt.length)=true:=decide_eq_true (by omega);go_wp2_with fail
   exact aT rfl aj.out gq.out aS.out.size E5.out _ _ rfl (fun h=>absurd h (by decide))
  have jJ:decide ((64:Int)<f.cvt.length)=false:=decide_eq_false (by omega);go_wp2_with fail
  clear k7;go_loopw [5] (fun i wr=>∃q:Nat,q<=f.cvt.length/\i= .int .i64 q/\Hid (Up f.cvt q N9)/\Below Wg.heap.size Wg wr) (fun i _=>f.cvt.length - (intOf i).toNat)
  case atStart=>exact⟨0,by omega,rfl,hd0 (Up.zero _ _),gq.out⟩
  case round=>
   obtain⟨w6,rfl⟩:∃x,x=wr:=⟨_,rfl⟩
   obtain⟨q,hq,rfl,hup,hb6⟩:=hrel;have dU:Hid (Below Wg.heap.size Wg w6):=hd0 hb6;have E6:Hid (Below w.heap.size w w6):=hd0 (bV.out.trans (hb6.mono hzg));clear k8;clear g0 g1 z0 z1;have k8:=aG.out.at hb6 8 rfl;have g0:=aj.out.at hb6 0 rfl;have g1:=aj.out.at hb6 1 rfl;have z0:=(aj.out.bel hb6).frozen 0;have z1:=(aj.out.bel hb6).frozen 1;by_cases hlt:q<f.cvt.length
   ·obtain⟨b,o,e,rfl,hb,hx,q0,-⟩:=(HF2.out.cvt.lw aeQ.ok hb6).int hlt;clear hb hb6;by_cases m1:dX e=false
    ·go_wp2_with (first|(go_at_call 82;refine(bZ _ _).mono ?_;rintro e w' ⟨rfl,rfl⟩))
     exact aT rfl aj.out dU.out aS.out.size E6.out _ _ rfl (fun h=>absurd h (by decide))
    have uy:dX e=true:=by simpa using m1
    have bY:=hd0 (hup.out.snoc hx.out (kz uy));go_wp2_with (first|(go_at_call 82;refine(bZ _ _).mono ?_;rintro e w' ⟨rfl,rfl⟩))
    go_roundw
    case rel=>exact⟨q+1,by omega,by simp,bY,dU.out⟩
    case measure=>simp[intOf];omega
   obtain rfl:q=f.cvt.length:=by omega
   have hg:P:=HP.out.mpr ⟨⟨by omega,HU.out⟩,by omega,fun n hn=>hup.out.all n hn⟩;clear hb6;go_wp2_with fail
   exact aT rfl aj.out dU.out aS.out.size E6.out 0 _ rfl (fun _=>hg)
end Go.Proofs.YtkijckccfookeaaDoor
