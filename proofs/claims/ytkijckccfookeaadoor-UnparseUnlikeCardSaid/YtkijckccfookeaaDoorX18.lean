/- Lemmas. -/
import Derived.Test.YtkijckccfookeaaDoorX17
import Derived.Deep.DeepCutAuto
import Derived.Deep.CutBlock
set_option linter.unusedVariables false
set_option linter.unusedSimpArgs false
set_option maxRecDepth 100000
set_option maxHeartbeats 32000000
namespace Go.Proofs.YtkijckccfookeaaDoor
open Go.RowKit
def Qu (kd:Int)(r:ae4):Prop:=(kd=1\/kd=5->∀s,r.in'.head? =some s->r.out.length=s.length)/\(kd=2->r.out.length<=6)/\(kd=3->r.out.length=1)/\(kd≠1->kd≠2->kd≠3->kd≠5->r.out=[])
structure af4 (n m:Nat)(kd:Int)(r:ae4):Prop where
 w:Qu kd r
 out:∀x∈r.out,In n x
 few:r.calls.length<=6
 calls:∀c∈r.calls,In r.in'.length c.at'/\In m c.lookup
 noC:r.calls≠[]->kd=4
 x:N9 r.x
 noX:r.x≠0->kd=6
theorem Qr (w:World)(f:Fnt)(A1 A2 A3 A4 A5 A6 A7 A8:Option Addr)(c1 c2 c3 c4 c5 c6 c7 c8:Nat)(kd:Int)(r:ae4)(C0 C1 C2 C3 C4:Option Addr)(e0 e1 e2 e3 e4:Nat)(hI:Sl aeR 1 w (Lw w) C1 r.in')(hO:Sl aeQ 1 w (Lw w) C3 r.out)(hC:Sl aff 2 w (Lw w) C4 r.calls)(hL:Sl aeV 3 w (Lw w) A3 f.aeO)(hne:kd=1\/kd=5->0<r.in'.length)(hB:afS r)(hn:Big f.aeN.length)(hm:Big f.aeO.length):Calls Tryd.prog 100 #[.agg #[.int .i64 f.unit,.slice A1 f.aeN.length c1,.slice A2 f.chars.length c2,.slice A3 f.aeO.length c3,.slice A4 f.features.length c4,.slice A5 f.aeP.length c5,.slice A6 f.regions.length c6,.slice A7 f.funcs.length c7,.slice A8 f.cvt.length c8],.int .i64 kd,.agg #[.slice C0 r.back.length e0,.slice C1 r.in'.length e1,.slice C2 r.ahead.length e2,.slice C3 r.out.length e3,.slice C4 r.calls.length e4,.int .i64 r.x]] w (OkE w (af4 f.aeN.length f.aeO.length kd r)):=by
 obtain⟨P,HP⟩:∃P:Prop,Hid (P=(af4 f.aeN.length f.aeO.length kd r)):=⟨_,rfl⟩
 rw[<-HP.out];obtain⟨b0,b1,b2,b3,b4⟩:=hB;unfold Big at b0 b1 b2 b3 b4 hn hm;obtain⟨Wf,hWf,hbf,bD⟩:=aB w 32 #[.int .i64 f.unit,.slice A1 f.aeN.length c1,.slice A2 f.chars.length c2,.slice A3 f.aeO.length c3,.slice A4 f.features.length c4,.slice A5 f.aeP.length c5,.slice A6 f.regions.length c6,.slice A7 f.funcs.length c7,.slice A8 f.cvt.length c8];have aS:Hid (Below w.heap.size w Wf):=hd0 hbf;have iM:=hd0 bD;obtain⟨Wr,jW,hbr,hkr⟩:=aB Wf 78 #[.slice C0 r.back.length e0,.slice C1 r.in'.length e1,.slice C2 r.ahead.length e2,.slice C3 r.out.length e3,.slice C4 r.calls.length e4,.int .i64 r.x];have jH:Hid (Below w.heap.size w Wr):=hd0 (aS.out.trans (hbr.mono aS.out.size));have qj:=hd0 hkr;have aG:Hid (Bk Wr w.heap.size 32 #[.int .i64 f.unit,.slice A1 f.aeN.length c1,.slice A2 f.chars.length c2,.slice A3 f.aeO.length c3,.slice A4 f.features.length c4,.slice A5 f.aeP.length c5,.slice A6 f.regions.length c6,.slice A7 f.funcs.length c7,.slice A8 f.cvt.length c8]):=hd0 (Bk.bel bD hbr);have hI0:=hI;have HI:=hd0 ((hI.lw aeR.ok hbf).lw aeR.ok hbr);have HO:=hd0 ((hO.lw aeQ.ok hbf).lw aeQ.ok hbr);have HC:=hd0 ((hC.lw aff.ok hbf).lw aff.ok hbr);have HL:=hd0 ((hL.lw aeV.ok hbf).lw aeV.ok hbr);have k1:=hkr.cell 1;have k3:=hkr.cell 3;have iP:=jH.out.size;clear hbf hbr bD hkr hI hO hC hL hI0;go_enter Tryd.func100,Tryd.ntmps100
 have hin':(kd=1\/kd=5)->0<r.in'.length:=hne;clear hne
 go_upto_block 0 with fail
 try rw[hWf]
 try rw[jW]
 clear hWf jW;go_cut [8] from 19 to 36 (fun s8 wx=>∃b:Bool,s8= .bool b/\(b=false->Qu kd r)/\Wr=wx)
 case first=>
  have e1:(kd==1)=false\/kd=1:=by by_cases h:kd=1;exact .inr h;exact .inl (dJ h)
  have e2:(kd==2)=false\/kd=2:=by by_cases h:kd=2;exact .inr h;exact .inl (dJ h)
  have e3:(kd==3)=false\/kd=3:=by by_cases h:kd=3;exact .inr h;exact .inl (dJ h)
  have e5:(kd==5)=false\/kd=5:=by by_cases h:kd=5;exact .inr h;exact .inl (dJ h)
  rcases e1 with e1|hk1
  ·rcases e5 with e5|hk5
   ·rcases e2 with e2|hk2
    ·rcases e3 with e3|hk3
     ·have HW:Hid (decide (0<r.out.length)=false->Qu kd r):=hd0 fun hb=>⟨fun h=>by rcases h with rfl|rfl;exact absurd e1 (by decide);exact absurd e5 (by decide),fun h=>by subst h;exact absurd e2 (by decide),fun h=>by subst h;exact absurd e3 (by decide),fun _ _ _ _=>List.eq_nil_of_length_eq_zero (by have:=of_decide_eq_false hb;omega)⟩
      go_wp2_with fail
      go_meet
      exact⟨_,rfl,HW.out,rfl⟩
     subst hk3;clear hin' e1 e2 e5;go_wp2_with fail
     go_meet
     exact⟨_,rfl,fun hb=>⟨fun h=>by omega,fun h=>by omega,fun _=>by have:=bne_eq_false_iff_eq.1 hb;omega,fun _ _ h3=>absurd rfl h3⟩,rfl⟩
    subst hk2;clear hin' e1 e3 e5;go_wp2_with fail
    go_meet
    exact⟨_,rfl,fun hb=>⟨fun h=>by omega,fun _=>by have:=of_decide_eq_false hb;omega,fun h=>by omega,fun _ h2=>absurd rfl h2⟩,rfl⟩
   have hin:=hin' (.inr hk5);clear hin' e1 e2 e3;subst hk5;obtain⟨b,o,s,A9,c9,rfl,hb,hs,q0,-⟩:=HI.out.row (k:=0) hin;clear hb;simp only[Nat.add_zero] at q0;have hs0:r.in'.head? =some s:=by rw[List.head?_eq_getElem?];exact hs.out
   go_wp2_with fail
   go_meet
   exact⟨_,rfl,fun hb=>⟨fun _ s' hs'=>by rw[hs0] at hs';injection hs' with hs';subst hs';have:=bne_eq_false_iff_eq.1 hb;omega,fun h=>by omega,fun h=>by omega,fun h1 h2 h3 h5=>by first|exact absurd rfl h1|exact absurd rfl h5⟩,rfl⟩
  have hin:=hin' (.inl hk1);clear hin' e2 e3 e5;subst hk1;obtain⟨b,o,s,A9,c9,rfl,hb,hs,q0,-⟩:=HI.out.row (k:=0) hin;clear hb;simp only[Nat.add_zero] at q0;have hs0:r.in'.head? =some s:=by rw[List.head?_eq_getElem?];exact hs.out
  go_wp2_with fail
  go_meet
  exact⟨_,rfl,fun hb=>⟨fun _ s' hs'=>by rw[hs0] at hs';injection hs' with hs';subst hs';have:=bne_eq_false_iff_eq.1 hb;omega,fun h=>by omega,fun h=>by omega,fun h1 h2 h3 h5=>by first|exact absurd rfl h1|exact absurd rfl h5⟩,rfl⟩
 case rest=>
 obtain⟨wb,rfl,hW,rfl⟩:=hcut;clear k1 k3 hin';cases wb
 ·have HW:=hd0 (hW rfl);clear hW;go_wp2_with fail
  go_loopw [9] (fun i wr=>∃k:Nat,k<=r.out.length/\i= .int .i64 k/\Hid (Up r.out k (In f.aeN.length))/\Below Wr.heap.size Wr wr) (fun i _=>r.out.length - (intOf i).toNat)
  case atStart=>exact⟨0,by omega,rfl,hd0 (Up.zero _ _),agE _ _⟩
  case round=>
   obtain⟨w1,rfl⟩:∃x,x=wr:=⟨_,rfl⟩
   obtain⟨k,hk,rfl,hup,hbr⟩:=hrel;have HB1:Hid (Below Wr.heap.size Wr w1):=hd0 hbr;have E1:Hid (Below w.heap.size w w1):=hd0 (jH.out.trans (hbr.mono iP));have x1:=aG.out.at hbr 1 rfl;have y3:=qj.out.at hbr 3 rfl;by_cases hlt:k<r.out.length
   ·obtain⟨b,o,e,rfl,hb,hx,q0,r0⟩:=(HO.out.lw aeQ.ok hbr).int hlt;clear hb r0 hbr;by_cases h1:e<0
    ·have bh1:decide (e<0)=true:=decide_eq_true h1;go_wp2_with fail
     go_quiet (fail)
     go_wp2_with fail
     go_ret
     exact OkE.bad _ (by decide) (below_drewN E1.out _)
    have bh1:decide (e<0)=false:=decide_eq_false h1;by_cases h2:(f.aeN.length:Int)<=e
    ·have kF:decide ((f.aeN.length:Int)<=e)=true:=decide_eq_true h2;go_wp2_with fail
     go_quiet (fail)
     go_wp2_with fail
     go_ret
     exact OkE.bad _ (by decide) (below_drewN E1.out _)
    have kF:decide ((f.aeN.length:Int)<=e)=false:=decide_eq_false h2;have bY:=hd0 (hup.out.snoc hx.out (In.of h1 h2));go_wp2_with fail
    go_quiet (fail)
    go_wp2_with fail
    go_roundw
    case rel=>exact⟨k+1,by omega,by simp,bY,below_drewN HB1.out _⟩
    case measure=>simp[intOf];omega
   obtain rfl:k=r.out.length:=by omega
   have HU:=hd0 (fun x (hx:x∈r.out)=>hup.out.all x hx);have y1:=qj.out.at hbr 1 rfl;have y4:=qj.out.at hbr 4 rfl;clear hup x1 y3;by_cases h3:6<r.calls.length
   ·have jJ:decide ((6:Int)<r.calls.length)=true:=decide_eq_true (by omega);clear hbr;go_wp2_with fail
    go_ret
    exact OkE.bad _ (by decide) E1.out
   have jJ:decide ((6:Int)<r.calls.length)=false:=decide_eq_false (by omega);by_cases h4:0<r.calls.length/\¬kd=4
   ·obtain⟨a1,a2⟩:=h4;have qX:decide (0<r.calls.length)=true:=decide_eq_true (by omega);have sS:(kd !=4)=true:=eU a2;clear a1 a2 hbr;go_wp2_with fail
    go_ret
    exact OkE.bad _ (by decide) E1.out
   have hw4:decide (0<r.calls.length)=false\/(decide (0<r.calls.length)=true/\(kd !=4)=false):=by
    by_cases a1:0<r.calls.length
    ·exact .inr ⟨decide_eq_true (by omega),by have:kd=4:=Decidable.not_not.1 fun a2=>h4 ⟨a1,a2⟩;simp[this]⟩
    exact .inl (decide_eq_false (by omega))
   have HNC:Hid (r.calls≠[]->kd=4):=hd0 fun hc=>Decidable.not_not.1 fun a2=>h4 ⟨aho.2 hc,a2⟩
   clear h4;rcases hw4 with qX|⟨qX,sS⟩
   all_goals
    go_wp2_with fail
    go_loopw [10] (fun i wr=>∃k:Nat,k<=r.calls.length/\i= .int .i64 k/\Hid (Up r.calls k (fun c=>In r.in'.length c.at'/\In f.aeO.length c.lookup))/\Below Wr.heap.size Wr wr) (fun i _=>r.calls.length - (intOf i).toNat)
    case atStart=>exact⟨0,by omega,rfl,hd0 (Up.zero _ _),HB1.out⟩
    case round=>
     obtain⟨w2,rfl⟩:∃x,x=wr:=⟨_,rfl⟩
     obtain⟨k,hk,rfl,hup,hb2⟩:=hrel;have HB2:Hid (Below Wr.heap.size Wr w2):=hd0 hb2;have E2:Hid (Below w.heap.size w w2):=hd0 (jH.out.trans (hb2.mono iP));clear y4 y1;have y4:=qj.out.at hb2 4 rfl;by_cases hlt:k<r.calls.length
     ·obtain⟨b,o,x,rfl,hb,hx,q0,q1,-,-⟩:=(HC.out.lw aff.ok hb2).call hlt;obtain⟨W3,hW3,hb3,hk3⟩:=aB w2 80 #[.int .i64 x.at',.int .i64 x.lookup];have HB3:Hid (Below Wr.heap.size Wr W3):=hd0 (hb2.trans (hb3.mono hb2.size));have E3:Hid (Below w.heap.size w W3):=hd0 (jH.out.trans (HB3.out.mono iP));have u1:=qj.out.at HB3.out 1 rfl;have u3:=aG.out.at HB3.out 3 rfl;have p0:=hk3.cell 0;have p1:=hk3.cell 1;clear hb hb3 hk3 hb2;by_cases m1:x.at'<0
      ·have uy:decide (x.at'<0)=true:=decide_eq_true m1;go_wp2_with fail
       go_ret
       exact OkE.bad _ (by decide) E3.out
      have uy:decide (x.at'<0)=false:=decide_eq_false m1;by_cases m2:(r.in'.length:Int)<=x.at'
      ·have AY:decide ((r.in'.length:Int)<=x.at')=true:=decide_eq_true m2;go_wp2_with fail
       go_ret
       exact OkE.bad _ (by decide) E3.out
      have AY:decide ((r.in'.length:Int)<=x.at')=false:=decide_eq_false m2;by_cases m3:x.lookup<0
      ·have JY:decide (x.lookup<0)=true:=decide_eq_true m3;go_wp2_with fail
       go_ret
       exact OkE.bad _ (by decide) E3.out
      have JY:decide (x.lookup<0)=false:=decide_eq_false m3;by_cases m4:(f.aeO.length:Int)<=x.lookup
      ·have UA:decide ((f.aeO.length:Int)<=x.lookup)=true:=decide_eq_true m4;go_wp2_with fail
       go_ret
       exact OkE.bad _ (by decide) E3.out
      have UA:decide ((f.aeO.length:Int)<=x.lookup)=false:=decide_eq_false m4;obtain⟨lk,hlk⟩:∃n:Nat,x.lookup=n:=⟨x.lookup.toNat,by omega⟩
      obtain⟨b5,o5,l5,A9,c9,hA5,hb5,hl5,v0,-⟩:=(HL.out.lw aeV.ok HB3.out).lookup (k:=lk) (by omega)
      try simp only at hA5
      subst hA5;have bY:=hd0 (hup.out.snoc hx.out ⟨In.of m1 m2,In.of m3 m4⟩);clear hb5 hl5 hx hup;rw[hlk] at p1 JY UA q1;have n1:(0:Int)<=lk:=by omega
      have n2:(lk:Int)<f.aeO.length:=by omega
      by_cases m5:l5.kind<1
      ·have bm5:decide (l5.kind<1)=true:=decide_eq_true m5
       try rw[hlk] at hW3
       go_wp2_with fail
       go_ret
       exact OkE.bad _ (by decide) E3.out
      have bm5:decide (l5.kind<1)=false:=decide_eq_false m5;by_cases m6:4<l5.kind
      ·have bm6:decide (4<l5.kind)=true:=decide_eq_true m6
       try rw[hlk] at hW3
       go_wp2_with fail
       go_ret
       exact OkE.bad _ (by decide) E3.out
      have bm6:decide (4<l5.kind)=false:=decide_eq_false m6
      try rw[hlk] at hW3
      go_wp2_with fail
      go_roundw
      case rel=>exact⟨k+1,by omega,by simp,bY,HB3.out⟩
      case measure=>simp[intOf];omega
     obtain rfl:k=r.calls.length:=by omega
     have HU2:=hd0 (fun x (hx:x∈r.calls)=>hup.out.all x hx);have y5:=qj.out.at hb2 5 rfl;clear hup hb2;by_cases m1:dX r.x=false
     ·go_wp2_with (first|(go_at_call 82;refine(bZ _ _).mono ?_;rintro e w' ⟨rfl,rfl⟩))
      go_ret
      exact OkE.bad _ (by decide) E2.out
     have uy:dX r.x=true:=by simpa using m1
     by_cases m2:¬r.x=0/\¬kd=6
     ·obtain⟨a1,a2⟩:=m2;have a3:(r.x !=0)=true:=eU a1;have a4:(kd !=6)=true:=eU a2;clear a1 a2;go_wp2_with (first|(go_at_call 82;refine(bZ _ _).mono ?_;rintro e w' ⟨rfl,rfl⟩))
      go_ret
      exact OkE.bad _ (by decide) E2.out
     have hw6:(r.x !=0)=false\/((r.x !=0)=true/\(kd !=6)=false):=by
      by_cases a1:r.x=0
      ·exact .inl (by simp[a1])
      exact .inr ⟨eU a1,by have:kd=6:=Decidable.not_not.1 fun a2=>m2 ⟨a1,a2⟩;simp[this]⟩
     have hg:P:=HP.out.mpr ⟨HW.out,HU.out,by omega,HU2.out,HNC.out,kz uy,fun hx=>Decidable.not_not.1 fun a2=>m2 ⟨hx,a2⟩⟩;clear m2;rcases hw6 with a3|⟨a3,a4⟩
     all_goals
      go_wp2_with (first|(go_at_call 82;refine(bZ _ _).mono ?_;rintro e w' ⟨rfl,rfl⟩))
      go_ret
      exact OkE.good hg E2.out
 clear hW;go_wp2_with fail
 go_ret
 exact OkE.bad _ (by decide) jH.out
theorem Vh:(Tryd.prog.info? 22).map (fun i=>(i.zero,i.size,i.bytes))=some (some (.slice none 0 0),1,24):=by kernel_rfl
theorem CS {w:World}{A:Option Addr}{xs:List (List Int)}(h:Sl aeR 1 w (Lw w) A xs):∃cells,Fl aeR 1 w (Lw w) cells xs/\Rd w w.heap.size A xs.length 1 cells/\∀u∈cells,u.oneCell'=true:=by
 obtain⟨cells,h1,h2⟩:=h;refine⟨cells,h1,⟨h1.1,fun h0=> ?_⟩,fun u hu=> ?_⟩
 ·obtain⟨b,o,e,hb,hc⟩:=h2 h0;exact⟨b,o,e,hb,hc⟩
 obtain⟨k,hk⟩:=agX.1 hu;have hlt:=(agG.1 hk).1;have hl:=h1.1;obtain⟨x,hx⟩:∃x,xs[k]? =some x:=⟨_,agH (by omega)⟩
 obtain⟨cs,hr,hc⟩:=h1.2 k x hx;obtain⟨A1,c1,rfl,-⟩:=hr;have:=hc.2 0 _ rfl;simp only[Nat.mul_one,Nat.add_zero] at this;rw[hk] at this;cases this;rfl
theorem Ri (w:World)(f:Fnt)(A1 A2 A3 A4 A5 A6 A7 A8:Option Addr)(c1 c2 c3 c4 c5 c6 c7 c8:Nat)(r:ae4)(C0 C1 C2 C3 C4:Option Addr)(e0 e1 e2 e3 e4:Nat)(h0:Sl aeR 1 w (Lw w) C0 r.back)(h1:Sl aeR 1 w (Lw w) C1 r.in')(h2:Sl aeR 1 w (Lw w) C2 r.ahead)(hl:r.back.length<=6/\r.in'.length<=6/\r.ahead.length<=6)(hs:∀s∈r.back++r.in'++r.ahead,Big s.length)(hn:Big f.aeN.length):Calls Tryd.prog 99 #[.agg #[.int .i64 f.unit,.slice A1 f.aeN.length c1,.slice A2 f.chars.length c2,.slice A3 f.aeO.length c3,.slice A4 f.features.length c4,.slice A5 f.aeP.length c5,.slice A6 f.regions.length c6,.slice A7 f.funcs.length c7,.slice A8 f.cvt.length c8],.agg #[.slice C0 r.back.length e0,.slice C1 r.in'.length e1,.slice C2 r.ahead.length e2,.slice C3 r.out.length e3,.slice C4 r.calls.length e4,.int .i64 r.x]] w (OkE w (∀s∈r.back++r.in'++r.ahead,OkS f.aeN.length s)):=by
 obtain⟨P,HP⟩:∃P:Prop,Hid (P=(∀s∈r.back++r.in'++r.ahead,OkS f.aeN.length s)):=⟨_,rfl⟩
 rw[<-HP.out];obtain⟨l0,l1,l2⟩:=hl;unfold Big at hn;obtain⟨Wf,hWf,hbf,bD⟩:=aB w 32 #[.int .i64 f.unit,.slice A1 f.aeN.length c1,.slice A2 f.chars.length c2,.slice A3 f.aeO.length c3,.slice A4 f.features.length c4,.slice A5 f.aeP.length c5,.slice A6 f.regions.length c6,.slice A7 f.funcs.length c7,.slice A8 f.cvt.length c8];have aS:Hid (Below w.heap.size w Wf):=hd0 hbf;have iM:=hd0 bD;obtain⟨Wr,jW,hbr,hkr⟩:=aB Wf 78 #[.slice C0 r.back.length e0,.slice C1 r.in'.length e1,.slice C2 r.ahead.length e2,.slice C3 r.out.length e3,.slice C4 r.calls.length e4,.int .i64 r.x];have jH:Hid (Below w.heap.size w Wr):=hd0 (aS.out.trans (hbr.mono aS.out.size));have qj:=hd0 hkr;have aG:Hid (Bk Wr w.heap.size 32 #[.int .i64 f.unit,.slice A1 f.aeN.length c1,.slice A2 f.chars.length c2,.slice A3 f.aeO.length c3,.slice A4 f.features.length c4,.slice A5 f.aeP.length c5,.slice A6 f.regions.length c6,.slice A7 f.funcs.length c7,.slice A8 f.cvt.length c8]):=hd0 (Bk.bel bD hbr);obtain⟨x0,F0,R0,O0⟩:=CS ((h0.lw aeR.ok hbf).lw aeR.ok hbr);obtain⟨x1,F1,R1,O1⟩:=CS ((h1.lw aeR.ok hbf).lw aeR.ok hbr);obtain⟨x2,F2,R2,O2⟩:=CS ((h2.lw aeR.ok hbf).lw aeR.ok hbr);have HF:=hd0 ((F0.append F1).append F2);have Q0:=hd0 R0;have Q1:=hd0 R1;have Q2:=hd0 R2;have T0:=hd0 O0;have T1:=hd0 O1;have T2:=hd0 O2;have iP:=jH.out.size;have y0:=hkr.cell 0;have y1:=hkr.cell 1;have y2:=hkr.cell 2;have SR:Wr.cell? ⟨Wf.heap.size,0,none⟩=some (.slice C0 r.back.length e0)/\Wr.cell? ⟨Wf.heap.size,1,none⟩=some (.slice C1 r.in'.length e1)/\Wr.cell? ⟨Wf.heap.size,2,none⟩=some (.slice C2 r.ahead.length e2):=⟨y0,y1,y2⟩
 obtain⟨i0,hi0,hz0,hz1,hz2⟩:=info_parts Vh;clear hbf hbr bD hkr h0 h1 h2 F0 F1 F2 R0 R1 R2 O0 O1 O2 y0 y1 y2;go_enter Tryd.func99,Tryd.ntmps99
 go_upto_block 0 with fail
 try rw[hWf]
 try rw[jW]
 clear hWf jW;go_wp2_with fail
 go_region_held3 (fun w'=>w'.cell? ⟨Wf.heap.size,0,none⟩=some (.slice C0 r.back.length e0)/\w'.cell? ⟨Wf.heap.size,1,none⟩=some (.slice C1 r.in'.length e1)/\w'.cell? ⟨Wf.heap.size,2,none⟩=some (.slice C2 r.ahead.length e2))
  (first
   |with_reducible exact S2
   |with_reducible exact S3
   |with_reducible exact S4
   |exact SR
   |go_keep)
  (first
   |(refine jA _ (by rfl) (.tmp 8) (.tmp 10) 75 (by rfl) Wr.heap.size 22 i0 _ 1 24 Tryd.underlying75 hi0 hz0 hz1 hz2 rfl (by decide) (.slice (some ⟨Wr.heap.size,0,none⟩) 0 0) 0 [] (by go_simp) (by exact(World.ownsRow_made Wr #[] 0 (ai _) (by simp[maxLen]) rfl).drew) Wr.heap.size C0 r.back.length e0 x0 (by go_simp) (by exact(Q0.out.alloc (ai _) _).drew) T0.out (by simp only[maxLen];omega) (by omega) (by simp) ?_;intro v2 w2 o2 g2 _;simp only[ahh,ahd] at o2;have K2:Hid (Below Wr.heap.size Wr w2):=hd0 ((((agE _ Wr).alloc (ai _) _).drew).grown g2 (by simp) (fun g hg=>by cases hg;exact ai _));have S2:=And.intro (qj.out.at K2.out 0 rfl) (And.intro (qj.out.at K2.out 1 rfl) (qj.out.at K2.out 2 rfl));have z2:=K2.out.size)
   |(refine jA _ (by rfl) (.tmp 11) (.tmp 13) 75 (by rfl) Wr.heap.size 22 i0 _ 1 24 Tryd.underlying75 hi0 hz0 hz1 hz2 rfl (by decide) v2 r.back.length x0 (by go_simp) o2 Wr.heap.size C1 r.in'.length e1 x1 (by go_simp) (Q1.out.below K2.out (ai _)) T1.out (by simp only[maxLen];omega) (by omega) K2.out.size ?_;intro v3 w3 o3 g3 _;have K3:Hid (Below Wr.heap.size Wr w3):=hd0 (K2.out.grown g3 z2 (fun g hg=>(o2.lt g hg).1));have S3:=And.intro (qj.out.at K3.out 0 rfl) (And.intro (qj.out.at K3.out 1 rfl) (qj.out.at K3.out 2 rfl));have z3:=K3.out.size)
   |(refine jA _ (by rfl) (.tmp 14) (.tmp 16) 75 (by rfl) Wr.heap.size 22 i0 _ 1 24 Tryd.underlying75 hi0 hz0 hz1 hz2 rfl (by decide) v3 (r.back.length+r.in'.length) (x0++x1) (by go_simp) o3 Wr.heap.size C2 r.ahead.length e2 x2 (by go_simp) (Q2.out.below K3.out (ai _)) T2.out (by simp only[maxLen];omega) (by omega) K3.out.size ?_;intro v4 w4 o4 g4 _;have K4:Hid (Below Wr.heap.size Wr w4):=hd0 (K3.out.grown g4 z3 (fun g hg=>(o3.lt g hg).1));have S4:=And.intro (qj.out.at K4.out 0 rfl) (And.intro (qj.out.at K4.out 1 rfl) (qj.out.at K4.out 2 rfl));have z4:=K4.out.size)
   |fail "no arm")
 obtain⟨L,hL⟩:∃L,Hid (L=r.back++r.in'++r.ahead):=⟨_,rfl⟩
 have hlen:r.back.length+r.in'.length+r.ahead.length=L.length:=by rw[hL.out,la,la]
 rw[<-hL.out] at HF hs HP;rw[hlen] at o4;have hlL:L.length<=18:=by omega
 obtain⟨A9,d9,rfl,-⟩:=Rd.afr o4;have sm:Same (Lw Wr) Wr w4:=fun b hb=>K4.out.block b hb
 have HS:Hid (Sl aeR 1 w4 (Lw w4) A9 L):=hd0 (Sl.afr o4 ((HF.out.keep aeR.ok sm).mono aeR.ok fun b hb=>agN hb K4.out.size) (fun b cur h=>h.lt) (by decide));clear o2 o3 o4 g2 g3 g4 S2 S3 S4 SR z2 z3 z4 sm HF Q0 Q1 Q2 T0 T1 T2 hlen;have Hs:=hd0 hs;clear hs;go_wp2_with fail
 go_loopw [6] (fun i wr=>∃k:Nat,k<=L.length/\i= .int .i64 k/\Hid (Up L k (OkS f.aeN.length))/\Below w4.heap.size w4 wr) (fun i _=>L.length - (intOf i).toNat)
 case atStart=>exact⟨0,by omega,rfl,hd0 (Up.zero _ _),agE _ _⟩
 case round=>
  obtain⟨w5,rfl⟩:∃x,x=wr:=⟨_,rfl⟩
  obtain⟨k,hk,rfl,hup,hb5⟩:=hrel;have gq:Hid (Below w4.heap.size w4 w5):=hd0 hb5;have F9:Below Wr.heap.size Wr w5:=K4.out.trans (hb5.mono K4.out.size);have kJ:Hid (Below Wr.heap.size Wr w5):=hd0 F9;have E5:Hid (Below w.heap.size w w5):=hd0 (jH.out.trans (F9.mono iP));by_cases hlt:k<L.length
  ·obtain⟨b,o,x,B1,t1,rfl,hb,hx,q0,s0⟩:=(HS.out.lw aeR.ok hb5).row hlt;have HQ:=hd0 s0;have hxB:=Hs.out x (agM hx.out);have Qs:Hid (Below Wr.heap.size Wr w5.drew):=hd0 F9.drew;have rF:Hid (Below w4.heap.size w4 w5.drew):=hd0 hb5.drew;have S5:=And.intro (nine aG.out Qs.out) (show w5.drew.cell? ⟨b,o+k,none⟩=some (.slice B1 x.length t1) from q0);have hbl:b<w5.drew.heap.size:=hb;clear hb s0 hb5 F9;go_wp2_with fail
   go_region_held3 (fun w'=>(w'.cell? ⟨w.heap.size,0,none⟩=some (.int .i64 f.unit)/\w'.cell? ⟨w.heap.size,1,none⟩=some (.slice A1 f.aeN.length c1)/\w'.cell? ⟨w.heap.size,2,none⟩=some (.slice A2 f.chars.length c2)/\w'.cell? ⟨w.heap.size,3,none⟩=some (.slice A3 f.aeO.length c3)/\w'.cell? ⟨w.heap.size,4,none⟩=some (.slice A4 f.features.length c4)/\w'.cell? ⟨w.heap.size,5,none⟩=some (.slice A5 f.aeP.length c5)/\w'.cell? ⟨w.heap.size,6,none⟩=some (.slice A6 f.regions.length c6)/\w'.cell? ⟨w.heap.size,7,none⟩=some (.slice A7 f.funcs.length c7)/\w'.cell? ⟨w.heap.size,8,none⟩=some (.slice A8 f.cvt.length c8))/\w'.cell? ⟨b,o+k,none⟩=some (.slice B1 x.length t1))
    (first
     |with_reducible exact S5
     |with_reducible exact S6)
    (first
     |(go_at_call 107;refine(Rj w5.drew f A1 A2 A3 A4 A5 A6 A7 A8 c1 c2 c3 c4 c5 c6 c7 c8 B1 t1 x HQ.out hxB hn).mono ?_;rintro e w6 ⟨be,rfl,hbe,hb6⟩;have iR:Hid (Below Wr.heap.size Wr w6):=hd0 (Qs.out.trans (hb6.mono Qs.out.size));have dU:Hid (Below w4.heap.size w4 w6):=hd0 (rF.out.trans (hb6.mono rF.out.size));have S6:=And.intro (nine aG.out iR.out) (show w6.cell? ⟨b,o+k,none⟩=some (.slice B1 x.length t1) from((aP hb6).1 _ _ hbl).trans q0))
     |fail "no arm")
   have E6:Hid (Below w.heap.size w w6):=hd0 (jH.out.trans (iR.out.mono iP));clear S5 S6;cases be
   ·go_wp2_with fail
    go_ret
    exact OkE.bad _ (by decide) E6.out
   have bY:=hd0 (hup.out.snoc hx.out (hbe rfl));clear hbe;go_wp2_with fail
   go_roundw
   case rel=>exact⟨k+1,by omega,by simp,bY,dU.out⟩
   case measure=>simp[intOf];omega
  obtain rfl:k=L.length:=by omega
  have hg:P:=HP.out.mpr fun x hx=>hup.out.all x hx
  clear hb5 F9;go_wp2_with fail
  go_ret
  exact OkE.good hg E5.out
structure afW (n m:Nat)(kd:Int)(r:ae4):Prop where
 shape:(r.back.length<=6/\r.in'.length<=6/\r.ahead.length<=6)/\r.in'≠[]/\(kd=1\/kd=5->r.in'.length=1)
 sets:∀s∈r.back++r.in'++r.ahead,OkS n s
 outs:af4 n m kd r
structure afO (n m:Nat)(l:Lookup):Prop where
 kind:1<=l.kind/\l.kind<=8
 few:l.rules.length<=60
 none:l.rules≠[]->l.kind<=6
 rules:∀r∈l.rules,afW n m l.kind r
structure af6 (l:Lookup):Prop where
 rules:Big l.rules.length
 rule:∀r∈l.rules,afS r/\∀s∈r.back++r.in'++r.ahead,Big s.length
theorem six {w w':World}{b o:Nat}{v0 v1 v2 v3 v4 v5:Value}(hl:b<w.heap.size)(hb:Below w.heap.size w w')(q0:w.cell? ⟨b,o,none⟩=some v0)(q1:w.cell? ⟨b,o+1,none⟩=some v1)(q2:w.cell? ⟨b,o+2,none⟩=some v2)(q3:w.cell? ⟨b,o+3,none⟩=some v3)(q4:w.cell? ⟨b,o+4,none⟩=some v4)(q5:w.cell? ⟨b,o+5,none⟩=some v5):
  w'.cell? ⟨b,o,none⟩=some v0/\w'.cell? ⟨b,o+1,none⟩=some v1/\w'.cell? ⟨b,o+2,none⟩=some v2/\w'.cell? ⟨b,o+3,none⟩=some v3/\w'.cell? ⟨b,o+4,none⟩=some v4/\w'.cell? ⟨b,o+5,none⟩=some v5:=
 ⟨((aP hb).1 _ _ hl).trans q0,((aP hb).1 _ _ hl).trans q1,((aP hb).1 _ _ hl).trans q2,((aP hb).1 _ _ hl).trans q3,((aP hb).1 _ _ hl).trans q4,((aP hb).1 _ _ hl).trans q5⟩
theorem ug {w w':World}{b:Nat}{t:TypeId}{v0 v1 v2:Value}(h:Bk w b t #[v0,v1,v2])(hb:Below w.heap.size w w'):w'.cell? ⟨b,0,none⟩=some v0/\w'.cell? ⟨b,1,none⟩=some v1/\w'.cell? ⟨b,2,none⟩=some v2:=⟨h.at hb 0 rfl,h.at hb 1 rfl,h.at hb 2 rfl⟩
theorem MG (w:World)(f:Fnt)(A1 A2 A3 A4 A5 A6 A7 A8:Option Addr)(c1 c2 c3 c4 c5 c6 c7 c8:Nat)(k:Nat)(hF:FIn ⟨A1,c1,A2,c2,A3,c3,A4,c4,A5,c5,A6,c6,A7,c7,A8,c8⟩ f w)(l:Lookup)(hg:f.aeO[k]? =some l)(hk:k<f.aeO.length)(hn:Big f.aeN.length)(hm:Big f.aeO.length)(hB:af6 l):Calls Tryd.prog 79 #[.agg #[.int .i64 f.unit,.slice A1 f.aeN.length c1,.slice A2 f.chars.length c2,.slice A3 f.aeO.length c3,.slice A4 f.features.length c4,.slice A5 f.aeP.length c5,.slice A6 f.regions.length c6,.slice A7 f.funcs.length c7,.slice A8 f.cvt.length c8],.int .i64 k] w (OkE w (afO f.aeN.length f.aeO.length l)):=by
 obtain⟨P,HP⟩:∃P:Prop,Hid (P=(afO f.aeN.length f.aeO.length l)):=⟨_,rfl⟩
 rw[<-HP.out];unfold Big at hn hm;have HG:=hd0 hg;obtain⟨Wf,hWf,hbf,bD⟩:=aB w 32 #[.int .i64 f.unit,.slice A1 f.aeN.length c1,.slice A2 f.chars.length c2,.slice A3 f.aeO.length c3,.slice A4 f.features.length c4,.slice A5 f.aeP.length c5,.slice A6 f.regions.length c6,.slice A7 f.funcs.length c7,.slice A8 f.cvt.length c8];have aS:Hid (Below w.heap.size w Wf):=hd0 hbf;have iM:=hd0 bD;have jK:=hd0 (hF.below hbf);obtain⟨b,o,x,B2,d2,hA1,hb,hx,q0,q1,q2,r1,s2⟩:=jK.out.aeO.lookup (k:=k) hk;simp only at hA1;subst hA1;obtain rfl:x=l:=by have:=hx.out;rw[HG.out] at this;exact(Option.some.inj this).symm
 obtain⟨Wl,Yh,hbl,hkl⟩:=aB Wf 60 #[.int .i64 x.kind,.bool x.afh,.slice B2 x.rules.length d2];have oJ:Hid (Below w.heap.size w Wl):=hd0 (aS.out.trans (hbl.mono aS.out.size));have xZ:=hd0 hkl;have aG:Hid (Bk Wl w.heap.size 32 #[.int .i64 f.unit,.slice A1 f.aeN.length c1,.slice A2 f.chars.length c2,.slice (some ⟨b,o,none⟩) f.aeO.length c3,.slice A4 f.features.length c4,.slice A5 f.aeP.length c5,.slice A6 f.regions.length c6,.slice A7 f.funcs.length c7,.slice A8 f.cvt.length c8]):=hd0 (Bk.bel bD hbl);have hzl:=oJ.out.size;have k3:=bD.cell 3;have m0:=hkl.cell 0;have m2:=hkl.cell 2;have HRl:=hd0 (s2.lw ae8.ok hbl);have TK:=hd0 (jK.out.aeO.lw aeV.ok hbl);have jH:=hd0 hB.rule;obtain⟨hB1,-⟩:=hB;unfold Big at hB1;clear hb r1 s2 hF hg hx;have bn1:decide ((k:Int)<0)=false:=decide_eq_false (by omega);have bn2:decide ((f.aeO.length:Int)<=(k:Int))=false:=decide_eq_false (by omega);go_enter Tryd.func79,Tryd.ntmps79
 clear hbf bD hbl hkl;by_cases h1:x.kind<1
 ·have bh1:decide (x.kind<1)=true:=decide_eq_true h1;go_wp2_with fail
  go_ret
  exact OkE.bad _ (by decide) oJ.out
 have bh1:decide (x.kind<1)=false:=decide_eq_false h1;by_cases h2:8<x.kind
 ·have kF:decide (8<x.kind)=true:=decide_eq_true h2;go_wp2_with fail
  go_ret
  exact OkE.bad _ (by decide) oJ.out
 have kF:decide (8<x.kind)=false:=decide_eq_false h2;by_cases h3:60<x.rules.length
 ·have jJ:decide ((60:Int)<x.rules.length)=true:=decide_eq_true (by omega);go_wp2_with fail
  go_ret
  exact OkE.bad _ (by decide) oJ.out
 have jJ:decide ((60:Int)<x.rules.length)=false:=decide_eq_false (by omega);by_cases h4:0<x.rules.length/\7<=x.kind
 ·obtain⟨a1,a2⟩:=h4;have b4:decide (0<x.rules.length)=true:=decide_eq_true a1;have b5:decide (7<=x.kind)=true:=decide_eq_true a2;go_wp2_with fail
  go_ret
  exact OkE.bad _ (by decide) oJ.out
 have hw4:decide (0<x.rules.length)=false\/(decide (0<x.rules.length)=true/\decide (7<=x.kind)=false):=by
  by_cases a1:0<x.rules.length
  ·exact .inr ⟨decide_eq_true a1,decide_eq_false fun a2=>h4 ⟨a1,a2⟩⟩
  exact .inl (decide_eq_false a1)
 have HNO:Hid (x.rules≠[]->x.kind<=6):=hd0 fun hc=>by
  have a1:0<x.rules.length:=aho.2 hc;have a2:¬7<=x.kind:=fun a2=>h4 ⟨a1,a2⟩
  omega
 clear h4;rcases hw4 with b4|⟨b4,b5⟩
 all_goals
  go_wp2_with fail
  try clear hWf
  try clear Yh
  clear k3 q0 q1 q2;go_loopw [6] (fun i wr=>∃q:Nat,q<=x.rules.length/\i= .int .i64 q/\Hid (Up x.rules q (afW f.aeN.length f.aeO.length x.kind))/\Below Wl.heap.size Wl wr) (fun i _=>x.rules.length - (intOf i).toNat)
  case atStart=>exact⟨0,by omega,rfl,hd0 (Up.zero _ _),agE _ _⟩
  case round=>
   obtain⟨w5,rfl⟩:∃x,x=wr:=⟨_,rfl⟩
   obtain⟨q,hq,rfl,hup,hb5⟩:=hrel;have gq:Hid (Below Wl.heap.size Wl w5):=hd0 hb5;have E5:Hid (Below w.heap.size w w5):=hd0 (oJ.out.trans (hb5.mono hzl));clear m0 m2;have m2:=xZ.out.at hb5 2 rfl;by_cases hlt:q<x.rules.length
   ·obtain⟨b2,o2,y,D0,t0,D1,t1,D2,t2,D3,t3,D4,t4,rfl,hbl,hy,q0,q1,q2,q3,q4,q5,-,s0,s1,s2,s3,s4⟩:=HRl.out.rule hlt;have hyB:=jH.out y (agM hy.out);replace s0:=hd0 s0;replace s1:=hd0 s1;replace s2:=hd0 s2;replace s3:=hd0 s3;replace s4:=hd0 s4;clear hb5;have rF:Hid (Below Wl.heap.size Wl w5.drew):=hd0 gq.out.drew;have S5d:=And.intro (nine aG.out rF.out) (And.intro (ug xZ.out rF.out) (six hbl rF.out q0 q1 q2 q3 q4 q5));go_wp2_with fail
    go_region_held3 (fun w'=>(w'.cell? ⟨w.heap.size,0,none⟩=some (.int .i64 f.unit)/\w'.cell? ⟨w.heap.size,1,none⟩=some (.slice A1 f.aeN.length c1)/\w'.cell? ⟨w.heap.size,2,none⟩=some (.slice A2 f.chars.length c2)/\w'.cell? ⟨w.heap.size,3,none⟩=some (.slice (some ⟨b,o,none⟩) f.aeO.length c3)/\w'.cell? ⟨w.heap.size,4,none⟩=some (.slice A4 f.features.length c4)/\w'.cell? ⟨w.heap.size,5,none⟩=some (.slice A5 f.aeP.length c5)/\w'.cell? ⟨w.heap.size,6,none⟩=some (.slice A6 f.regions.length c6)/\w'.cell? ⟨w.heap.size,7,none⟩=some (.slice A7 f.funcs.length c7)/\w'.cell? ⟨w.heap.size,8,none⟩=some (.slice A8 f.cvt.length c8))/\(w'.cell? ⟨Wf.heap.size,0,none⟩=some (.int .i64 x.kind)/\w'.cell? ⟨Wf.heap.size,1,none⟩=some (.bool x.afh)/\w'.cell? ⟨Wf.heap.size,2,none⟩=some (.slice (some ⟨b2,o2,none⟩) x.rules.length d2))/\(w'.cell? ⟨b2,o2+q*6,none⟩=some (.slice D0 y.back.length t0)/\w'.cell? ⟨b2,o2+q*6+1,none⟩=some (.slice D1 y.in'.length t1)/\w'.cell? ⟨b2,o2+q*6+2,none⟩=some (.slice D2 y.ahead.length t2)/\w'.cell? ⟨b2,o2+q*6+3,none⟩=some (.slice D3 y.out.length t3)/\w'.cell? ⟨b2,o2+q*6+4,none⟩=some (.slice D4 y.calls.length t4)/\w'.cell? ⟨b2,o2+q*6+5,none⟩=some (.int .i64 y.x)))
     (first
      |with_reducible exact S5d
      |with_reducible exact S6)
     (first
      |(go_at_call 98;refine(Qh w5.drew x.kind y D0 D1 D2 D3 D4 t0 t1 t2 t3 t4 hyB.1).mono ?_;rintro e w6 ⟨r6,rfl,tu,hb6⟩;have dU:Hid (Below Wl.heap.size Wl w6):=hd0 (rF.out.trans (hb6.mono rF.out.size));have S6:=And.intro (nine aG.out dU.out) (And.intro (ug xZ.out dU.out) (six hbl dU.out q0 q1 q2 q3 q4 q5));clear hb6)
      |fail "no arm")
    have E6:Hid (Below w.heap.size w w6):=hd0 (oJ.out.trans (dU.out.mono hzl));clear S5d S6;by_cases hr:r6=0
    ·have K6:=hd0 (tu hr);clear tu;subst hr;have wK:Hid (Below Wl.heap.size Wl w6.drew):=hd0 dU.out.drew;have S6d:=And.intro (nine aG.out wK.out) (And.intro (ug xZ.out wK.out) (six hbl wK.out q0 q1 q2 q3 q4 q5));go_wp2_with fail
     go_region_held3 (fun w'=>(w'.cell? ⟨w.heap.size,0,none⟩=some (.int .i64 f.unit)/\w'.cell? ⟨w.heap.size,1,none⟩=some (.slice A1 f.aeN.length c1)/\w'.cell? ⟨w.heap.size,2,none⟩=some (.slice A2 f.chars.length c2)/\w'.cell? ⟨w.heap.size,3,none⟩=some (.slice (some ⟨b,o,none⟩) f.aeO.length c3)/\w'.cell? ⟨w.heap.size,4,none⟩=some (.slice A4 f.features.length c4)/\w'.cell? ⟨w.heap.size,5,none⟩=some (.slice A5 f.aeP.length c5)/\w'.cell? ⟨w.heap.size,6,none⟩=some (.slice A6 f.regions.length c6)/\w'.cell? ⟨w.heap.size,7,none⟩=some (.slice A7 f.funcs.length c7)/\w'.cell? ⟨w.heap.size,8,none⟩=some (.slice A8 f.cvt.length c8))/\(w'.cell? ⟨Wf.heap.size,0,none⟩=some (.int .i64 x.kind)/\w'.cell? ⟨Wf.heap.size,1,none⟩=some (.bool x.afh)/\w'.cell? ⟨Wf.heap.size,2,none⟩=some (.slice (some ⟨b2,o2,none⟩) x.rules.length d2))/\(w'.cell? ⟨b2,o2+q*6,none⟩=some (.slice D0 y.back.length t0)/\w'.cell? ⟨b2,o2+q*6+1,none⟩=some (.slice D1 y.in'.length t1)/\w'.cell? ⟨b2,o2+q*6+2,none⟩=some (.slice D2 y.ahead.length t2)/\w'.cell? ⟨b2,o2+q*6+3,none⟩=some (.slice D3 y.out.length t3)/\w'.cell? ⟨b2,o2+q*6+4,none⟩=some (.slice D4 y.calls.length t4)/\w'.cell? ⟨b2,o2+q*6+5,none⟩=some (.int .i64 y.x)))
      (first
       |with_reducible exact S6d
       |with_reducible exact S7)
      (first
       |(go_at_call 99;refine(Ri w6.drew f A1 A2 (some ⟨b,o,none⟩) A4 A5 A6 A7 A8 c1 c2 c3 c4 c5 c6 c7 c8 y D0 D1 D2 D3 D4 t0 t1 t2 t3 t4 (s0.out.lw aeR.ok wK.out) (s1.out.lw aeR.ok wK.out) (s2.out.lw aeR.ok wK.out) K6.out.1 hyB.2 hn).mono ?_;rintro e w7 ⟨r7,rfl,BM,hb7⟩;have jI:Hid (Below Wl.heap.size Wl w7):=hd0 (wK.out.trans (hb7.mono wK.out.size));have S7:=And.intro (nine aG.out jI.out) (And.intro (ug xZ.out jI.out) (six hbl jI.out q0 q1 q2 q3 q4 q5));clear hb7)
       |fail "no arm")
     have E7:Hid (Below w.heap.size w w7):=hd0 (oJ.out.trans (jI.out.mono hzl));clear S6d S7;by_cases hr:r7=0
     ·have K7:=hd0 (BM hr);clear BM;subst hr;have iZ:Hid (Below Wl.heap.size Wl w7.drew):=hd0 jI.out.drew;have S7d:=And.intro (nine aG.out iZ.out) (And.intro (ug xZ.out iZ.out) (six hbl iZ.out q0 q1 q2 q3 q4 q5));go_wp2_with fail
      go_region_held3 (fun w'=>(w'.cell? ⟨w.heap.size,0,none⟩=some (.int .i64 f.unit)/\w'.cell? ⟨w.heap.size,1,none⟩=some (.slice A1 f.aeN.length c1)/\w'.cell? ⟨w.heap.size,2,none⟩=some (.slice A2 f.chars.length c2)/\w'.cell? ⟨w.heap.size,3,none⟩=some (.slice (some ⟨b,o,none⟩) f.aeO.length c3)/\w'.cell? ⟨w.heap.size,4,none⟩=some (.slice A4 f.features.length c4)/\w'.cell? ⟨w.heap.size,5,none⟩=some (.slice A5 f.aeP.length c5)/\w'.cell? ⟨w.heap.size,6,none⟩=some (.slice A6 f.regions.length c6)/\w'.cell? ⟨w.heap.size,7,none⟩=some (.slice A7 f.funcs.length c7)/\w'.cell? ⟨w.heap.size,8,none⟩=some (.slice A8 f.cvt.length c8))/\(w'.cell? ⟨Wf.heap.size,0,none⟩=some (.int .i64 x.kind)/\w'.cell? ⟨Wf.heap.size,1,none⟩=some (.bool x.afh)/\w'.cell? ⟨Wf.heap.size,2,none⟩=some (.slice (some ⟨b2,o2,none⟩) x.rules.length d2))/\(w'.cell? ⟨b2,o2+q*6,none⟩=some (.slice D0 y.back.length t0)/\w'.cell? ⟨b2,o2+q*6+1,none⟩=some (.slice D1 y.in'.length t1)/\w'.cell? ⟨b2,o2+q*6+2,none⟩=some (.slice D2 y.ahead.length t2)/\w'.cell? ⟨b2,o2+q*6+3,none⟩=some (.slice D3 y.out.length t3)/\w'.cell? ⟨b2,o2+q*6+4,none⟩=some (.slice D4 y.calls.length t4)/\w'.cell? ⟨b2,o2+q*6+5,none⟩=some (.int .i64 y.x)))
       (first
        |with_reducible exact S7d
        |with_reducible exact S8)
       (first
        |(go_at_call 100;refine(Qr w7.drew f A1 A2 (some ⟨b,o,none⟩) A4 A5 A6 A7 A8 c1 c2 c3 c4 c5 c6 c7 c8 x.kind y D0 D1 D2 D3 D4 t0 t1 t2 t3 t4 (s1.out.lw aeR.ok iZ.out) (s3.out.lw aeQ.ok iZ.out) (s4.out.lw aff.ok iZ.out) (TK.out.lw aeV.ok iZ.out) (fun h=>by have:=K6.out.2.2 h;omega) hyB.1 hn hm).mono ?_;rintro e w8 ⟨r8,rfl,vW,hb8⟩;have lg:Hid (Below Wl.heap.size Wl w8):=hd0 (iZ.out.trans (hb8.mono iZ.out.size));have S8:=And.intro (nine aG.out lg.out) (And.intro (ug xZ.out lg.out) (six hbl lg.out q0 q1 q2 q3 q4 q5));clear hb8)
        |fail "no arm")
      have E8:Hid (Below w.heap.size w w8):=hd0 (oJ.out.trans (lg.out.mono hzl));clear S7d S8;by_cases hr:r8=0
      ·have K8:=hd0 (vW hr);clear vW;subst hr;have bY:=hd0 (hup.out.snoc hy.out ⟨K6.out,K7.out,K8.out⟩);go_wp2_with fail
       go_roundw
       case rel=>exact⟨q+1,by omega,by simp,bY,lg.out⟩
       case measure=>simp[intOf];omega
      clear vW;have IG:(r8==0)=false:=dJ hr;have Jz:(r8 !=0)=true:=eU hr;go_wp2_with fail
      go_ret
      exact OkE.bad r8 hr E8.out
     clear BM;have IG:(r7==0)=false:=dJ hr;have Jz:(r7 !=0)=true:=eU hr;go_wp2_with fail
     go_ret
     exact OkE.bad r7 hr E7.out
    clear tu;have IG:(r6==0)=false:=dJ hr;have Jz:(r6 !=0)=true:=eU hr;go_wp2_with fail
    go_ret
    exact OkE.bad r6 hr E6.out
   obtain rfl:q=x.rules.length:=by omega
   have hg:P:=HP.out.mpr ⟨⟨by omega,by omega⟩,by omega,HNO.out,fun r hr=>hup.out.all r hr⟩;clear hb5;go_wp2_with fail
   go_ret
   exact OkE.good hg E5.out
structure afP (m:Nat)(x:afd):Prop where
 name:nameB x.name=true
 aeO:∀n∈x.aeO,In m n
 few:x.aeO.length<=m
def UpI (l:List Int)(k n:Nat):Prop:=∀j x,j<k->l[j]? =some x->In n x/\(j:Int)<=x
theorem UpI.zero (l:List Int)(n:Nat):UpI l 0 n:=fun j x hj=>by omega
theorem UpI.snoc {l:List Int}{k n:Nat}{y:Int}(h:UpI l k n)(hy:l[k]? =some y)(hP:In n y)(hk:(k:Int)<=y):UpI l (k+1) n:=fun j x hj hx=>by
 by_cases e:j=k
 ·subst e;rw[hy] at hx;cases hx;exact⟨hP,hk⟩
 exact h j x (by omega) hx
theorem UpI.next {l:List Int}{k n:Nat}{y z:Int}(h:UpI l (k+1) n)(hy:l[k]? =some y)(hz:l[k+1]? =some z)(hP:In n z)(hk:¬z<=y):UpI l (k+1+1) n:=h.snoc hz hP (by have:=(h k y (by omega) hy).2;omega)
theorem UpI.all {l:List Int}{n:Nat}(h:UpI l l.length n):∀x∈l,In n x:=fun x hx=>by
 obtain⟨j,hj,rfl⟩:=List.getElem_of_mem hx;exact(h j _ hj (agH hj)).1
theorem UpI.few {l:List Int}{n:Nat}(h:UpI l l.length n):l.length<=n:=by
 by_cases e:l.length=0
 ·omega
 obtain⟨⟨a,b⟩,c⟩:=h (l.length - 1) _ (by omega) (agH (by omega));omega
structure af7 (x:afd):Prop where
 name:Big x.name.length
 aeO:Big x.aeO.length
theorem Sr (w:World)(f:Fnt)(A1 A2 A3 A4 A5 A6 A7 A8:Option Addr)(c1 c2 c3 c4 c5 c6 c7 c8:Nat)(k:Nat)(hF:FIn ⟨A1,c1,A2,c2,A3,c3,A4,c4,A5,c5,A6,c6,A7,c7,A8,c8⟩ f w)(l:afd)(hg:f.features[k]? =some l)(hk:k<f.features.length)(hn:Big f.features.length)(hm:Big f.aeO.length)(hB:af7 l):Calls Tryd.prog 80 #[.agg #[.int .i64 f.unit,.slice A1 f.aeN.length c1,.slice A2 f.chars.length c2,.slice A3 f.aeO.length c3,.slice A4 f.features.length c4,.slice A5 f.aeP.length c5,.slice A6 f.regions.length c6,.slice A7 f.funcs.length c7,.slice A8 f.cvt.length c8],.int .i64 k] w (OkE w (afP f.aeO.length l)):=by
 obtain⟨P,HP⟩:∃P:Prop,Hid (P=(afP f.aeO.length l)):=⟨_,rfl⟩
 rw[<-HP.out];unfold Big at hn hm;have HG:=hd0 hg;obtain⟨Wf,hWf,hbf,bD⟩:=aB w 32 #[.int .i64 f.unit,.slice A1 f.aeN.length c1,.slice A2 f.chars.length c2,.slice A3 f.aeO.length c3,.slice A4 f.features.length c4,.slice A5 f.aeP.length c5,.slice A6 f.regions.length c6,.slice A7 f.funcs.length c7,.slice A8 f.cvt.length c8];have aS:Hid (Below w.heap.size w Wf):=hd0 hbf;have iM:=hd0 bD;have jK:=hd0 (hF.below hbf);obtain⟨b,o,x,B2,d2,hA1,hb,hx,q0,q1,s2⟩:=jK.out.aeX.afH (k:=k) hk;simp only at hA1;subst hA1;obtain rfl:x=l:=by have:=hx.out;rw[HG.out] at this;exact(Option.some.inj this).symm
 obtain⟨Wl,Yh,hbl,hkl⟩:=aB Wf 82 #[.string ⟨x.name.toArray⟩,.slice B2 x.aeO.length d2];have oJ:Hid (Below w.heap.size w Wl):=hd0 (aS.out.trans (hbl.mono aS.out.size));have xZ:=hd0 hkl;have aG:Hid (Bk Wl w.heap.size 32 #[.int .i64 f.unit,.slice A1 f.aeN.length c1,.slice A2 f.chars.length c2,.slice A3 f.aeO.length c3,.slice (some ⟨b,o,none⟩) f.features.length c4,.slice A5 f.aeP.length c5,.slice A6 f.regions.length c6,.slice A7 f.funcs.length c7,.slice A8 f.cvt.length c8]):=hd0 (Bk.bel bD hbl);have hzl:=oJ.out.size;have k4:=bD.cell 4;have m0:=hkl.cell 0;have m1:=hkl.cell 1;have GH:=hd0 (jK.out.aeX.lw aeW.ok hbl);have TK:=hd0 (s2.lw aeQ.ok hbl);obtain⟨hB1,hB2⟩:=hB;unfold Big at hB1 hB2;clear hb s2 hF hg hx;have bn1:decide ((k:Int)<0)=false:=decide_eq_false (by omega);have bn2:decide ((f.features.length:Int)<=(k:Int))=false:=decide_eq_false (by omega);go_enter Tryd.func80,Tryd.ntmps80
 clear hbf bD hbl hkl;by_cases h1:x.name.length<1
 ·have bh1:decide ((x.name.length:Int)<1)=true:=decide_eq_true (by omega);go_wp2_with fail
  go_ret
  exact OkE.bad _ (by decide) oJ.out
 have bh1:decide ((x.name.length:Int)<1)=false:=decide_eq_false (by omega);by_cases h2:8<x.name.length
 ·have kF:decide ((8:Int)<x.name.length)=true:=decide_eq_true (by omega);go_wp2_with fail
  go_ret
  exact OkE.bad _ (by decide) oJ.out
 have kF:decide ((8:Int)<x.name.length)=false:=decide_eq_false (by omega);go_wp2_with fail
 try clear hWf
 try clear Yh
 clear q0 q1;go_loopw [6] (fun i wr=>∃q:Nat,q<=x.name.length/\i= .int .i64 q/\Hid (∀j c,j<q->x.name[j]? =some c->nameAt j c=true)/\Wl=wr) (fun i _=>x.name.length - (intOf i).toNat)
 case atStart=>exact⟨0,by omega,rfl,hd0 (by omega),rfl⟩
 case round=>
  obtain⟨q,hq,rfl,hall,rfl⟩:=hrel;by_cases hlt:q<x.name.length
  ·obtain⟨c,hc⟩:∃c,x.name[q]? =some c:=⟨_,agH hlt⟩
   have hb:=byte_at x.name q c hc hlt;have hend:Hid (nameAt q c=true->∀j d,j<q+1->x.name[j]? =some d->nameAt j d=true):=by
    intro hn j d hj hd;by_cases hjk:j=q
    ·subst hjk;rw[hc] at hd;cases hd;exact hn
    exact hall.out j d (by omega) hd
   clear hc;by_cases h1:(c.toNat:Int)<97
   ·have bh1:decide ((c.toNat:Int)<97)=true:=decide_eq_true h1;by_cases h3:(c.toNat:Int)<65
    ·have jJ:decide ((c.toNat:Int)<65)=true:=decide_eq_true h3;go_wp2_with fail
     go_ret
     exact OkE.bad _ (by decide) oJ.out
    have jJ:decide ((c.toNat:Int)<65)=false:=decide_eq_false h3;by_cases h4:90<(c.toNat:Int)
    ·have qX:decide (90<(c.toNat:Int))=true:=decide_eq_true h4;go_wp2_with fail
     go_ret
     exact OkE.bad _ (by decide) oJ.out
    have qX:decide (90<(c.toNat:Int))=false:=decide_eq_false h4;have LX:=hd0 (hend.out ((qJ q c).2 (by omega)));go_wp2_with fail
    go_roundw
    case rel=>exact⟨q+1,by omega,by simp,LX,by trivial⟩
    case measure=>simp[intOf];omega
   have bh1:decide ((c.toNat:Int)<97)=false:=decide_eq_false h1;by_cases h2:122<(c.toNat:Int)
   ·have kF:decide (122<(c.toNat:Int))=true:=decide_eq_true h2;have jJ:decide ((c.toNat:Int)<65)=false:=decide_eq_false (by omega);have qX:decide (90<(c.toNat:Int))=true:=decide_eq_true (by omega);go_wp2_with fail
    go_ret
    exact OkE.bad _ (by decide) oJ.out
   have kF:decide (122<(c.toNat:Int))=false:=decide_eq_false h2;have LX:=hd0 (hend.out ((qJ q c).2 (by omega)));go_wp2_with fail
   go_roundw
   case rel=>exact⟨q+1,by omega,by simp,LX,by trivial⟩
   case measure=>simp[intOf];omega
  obtain rfl:q=x.name.length:=by omega
  have HN:Hid (nameB x.name=true):=hd0 (by rw[Ej x.name hall.out];exact decide_eq_true ⟨by omega,by omega⟩);clear hall;go_wp2_with fail
  go_loopw [8] (fun i wr=>∃j:Nat,j<=k/\i= .int .i64 j/\Below Wl.heap.size Wl wr) (fun i _=>k - (intOf i).toNat)
  case atStart=>exact⟨0,by omega,rfl,agE _ _⟩
  case round=>
   obtain⟨w5,rfl⟩:∃x,x=wr:=⟨_,rfl⟩
   obtain⟨j,hj,rfl,hb5⟩:=hrel;have gq:Hid (Below Wl.heap.size Wl w5):=hd0 hb5;have E5:Hid (Below w.heap.size w w5):=hd0 (oJ.out.trans (hb5.mono hzl));clear m0 m1 k4;have m0:=xZ.out.at hb5 0 rfl;have m1:=xZ.out.at hb5 1 rfl;have k4:=aG.out.at hb5 4 rfl;by_cases hjk:j<k
   ·obtain⟨b2,o2,z,Z1,t1,e2,hb2,hz,v0,-,-⟩:=(GH.out.lw aeW.ok hb5).afH (k:=j) (by omega);obtain⟨rfl,rfl⟩:b=b2/\o=o2:=by simpa using e2
    clear hb2 e2 hb5 m1;by_cases hnm:z.name=x.name
    ·have hq2:(z.name==x.name)=true:=by rw[hnm];simp
     clear hnm;go_wp2_with fail
     go_quiet (fail)
     go_wp2_with fail
     go_ret
     exact OkE.bad _ (by decide) (below_drewN E5.out _)
    have hq2:(z.name==x.name)=false:=by simpa using hnm
    clear hnm hz;go_wp2_with fail
    go_quiet (fail)
    go_wp2_with fail
    go_roundw
    case rel=>exact⟨j+1,by omega,by simp,below_drewN gq.out _⟩
    case measure=>simp[intOf];omega
   obtain rfl:j=k:=by omega
   clear hb5 m0 k4;go_wp2_with fail
   go_loopw [9] (fun i wr=>∃q:Nat,q<=x.aeO.length/\i= .int .i64 q/\Hid (UpI x.aeO q f.aeO.length)/\Below Wl.heap.size Wl wr) (fun i _=>x.aeO.length - (intOf i).toNat)
   case atStart=>exact⟨0,by omega,rfl,hd0 (UpI.zero _ _),gq.out⟩
   case round=>
    obtain⟨w6,rfl⟩:∃x,x=wr:=⟨_,rfl⟩
    obtain⟨q,hq,rfl,hup,hb6⟩:=hrel;have dU:Hid (Below Wl.heap.size Wl w6):=hd0 hb6;have E6:Hid (Below w.heap.size w w6):=hd0 (oJ.out.trans (hb6.mono hzl));clear m1;have m1:=xZ.out.at hb6 1 rfl;have k3:=aG.out.at hb6 3 rfl;by_cases hlt:q<x.aeO.length
    ·obtain⟨b3,o3,e,rfl,hb3,hx3,q0,r0⟩:=(TK.out.lw aeQ.ok hb6).int hlt;clear hb3 r0 hb6;by_cases h1:e<0
     ·have bh1:decide (e<0)=true:=decide_eq_true h1;go_wp2_with fail
      go_quiet (fail)
      go_wp2_with fail
      go_ret
      exact OkE.bad _ (by decide) (below_drewN E6.out _)
     have bh1:decide (e<0)=false:=decide_eq_false h1;by_cases h2:(f.aeO.length:Int)<=e
     ·have kF:decide ((f.aeO.length:Int)<=e)=true:=decide_eq_true h2;go_wp2_with fail
      go_quiet (fail)
      go_wp2_with fail
      go_ret
      exact OkE.bad _ (by decide) (below_drewN E6.out _)
     have kF:decide ((f.aeO.length:Int)<=e)=false:=decide_eq_false h2;by_cases hk0:q=0
     ·subst hk0;have bY:Hid (UpI x.aeO (0+1) f.aeO.length):=hd0 (hup.out.snoc hx3.out (In.of h1 h2) (by omega));have e0:((0:Nat):Int)=0:=rfl;simp only[Nat.add_zero] at q0;rw[e0];go_wp2_with fail
      go_quiet (fail)
      go_wp2_with fail
      go_roundw
      case rel=>exact⟨0+1,by omega,by simp,bY,below_drewN dU.out _⟩
      case measure=>simp[intOf];omega
     obtain⟨j,rfl⟩:∃j,q=j+1:=⟨q - 1,by omega⟩
     have bk:decide (0<((j+1:Nat):Int))=true:=decide_eq_true (by omega);have ej:((j+1:Nat):Int) - 1=(j:Int):=by omega
     obtain⟨b',o',y,e',hb',hy,q1,r1⟩:=(TK.out.lw aeQ.ok dU.out).int (k:=j) (by omega);obtain⟨rfl,rfl⟩:b3=b'/\o3=o':=by simpa using e'
     clear hb' r1 e';by_cases h3:e<=y
     ·have jJ:decide (e<=y)=true:=decide_eq_true h3;go_wp2_with fail
      go_quiet (fail)
      go_wp2_with fail
      go_ret
      exact OkE.bad _ (by decide) (below_drewN E6.out _)
     have jJ:decide (e<=y)=false:=decide_eq_false h3;have bY:=hd0 (hup.out.next hy.out hx3.out (In.of h1 h2) h3);go_wp2_with fail
     go_quiet (fail)
     go_wp2_with fail
     go_roundw
     case rel=>exact⟨j+1+1,by omega,by simp,bY,below_drewN dU.out _⟩
     case measure=>simp[intOf];omega
    obtain rfl:q=x.aeO.length:=by omega
    have hg:P:=HP.out.mpr ⟨HN.out,hup.out.all,hup.out.few⟩;clear hb6;go_wp2_with fail
    go_ret
    exact OkE.good hg E6.out
end Go.Proofs.YtkijckccfookeaaDoor
