/- Lemmas. -/
import Derived.Test.YtkijckccfookeaaDoorX24
import Derived.Test.YtkijckccfookeaaDoorMkOut
set_option linter.unusedVariables false
set_option linter.unusedSimpArgs false
set_option maxRecDepth 100000
set_option maxHeartbeats 32000000
namespace Go.Proofs.YtkijckccfookeaaDoor
open Go.RowKit
section
theorem af4.right {n m:Nat}{kd:Int}{r:ae4}(h:afW n m kd r)(hk:1<=kd/\kd<=8)(h6:kd<=6)(hm:m<=40):OkR n kd r where
 back:=fun s hs=>h.sets s (by simp[hs])
 in':=fun s hs=>h.sets s (by simp[hs])
 ahead:=fun s hs=>h.sets s (by simp[hs])
 out:=h.outs.out
 calls:=fun c hc=>by
  obtain⟨⟨a1,a2⟩,a3,a4⟩:=h.outs.calls c hc;have:=h.shape.1.2.1;exact⟨by unfold N9;omega,by unfold N9;omega⟩
 x:=h.outs.x
 one:=fun hk1=>by
  have h1:=h.shape.2.2 hk1;obtain⟨s,hs⟩:=List.length_eq_one_iff.1 h1;exact⟨s,hs,h.outs.w.1 hk1 s (by rw[hs];rfl)⟩
 outs:=fun hk4=>h.outs.w.2.2.2 (by omega) (by omega) (by omega) (by omega)
 noC:=fun h4=>Decidable.byContradiction fun hc=>h4 (h.outs.noC hc)
 noX:=fun h6=>Decidable.byContradiction fun hc=>h6 (h.outs.noX hc)
theorem afx.right {f:Fnt}(h:afx f):afs f where
 unit:=by have:=h.unit;unfold N9;omega
 aeP:=h.aeP.1.2
 regs:=fun r hr t ht=>by
  obtain⟨a1,a2,a3,a4⟩:=(h.aeP.2.2 r hr).2 t ht;exact⟨by unfold N9;omega,by unfold N9;omega,by unfold N9;omega⟩
 cvt:=h.afV.2.2
 funcs:=fun p hp=>(h.afV.1.2 p hp).2
 apart:=h.aeN.apart.nodup
 aeN:=fun g hg=>by
  have k:=h.aeN.each g hg;have hr:=h.aeP.2.1;refine⟨k.name,k.adv,k.pts.2,k.ends.2,k.parts.2,k.anch.2,fun d hd=> ?_,k.hint.2⟩;obtain⟨⟨a1,a2⟩,⟨a3,a4⟩,a5,a6⟩:=k.ae3.2 d hd;have:=k.pts.1;exact⟨by unfold N9;omega,by unfold N9;omega,a5,a6⟩
 chars:=fun c hc=>by
  obtain⟨⟨a1,a2⟩,a3⟩:=h.chars.2 c hc;exact⟨by unfold N9;omega,a3⟩
 aeO:=fun l hl=>by
  have k:=h.looks.1.2 l hl;refine⟨k.kind.1,k.kind.2,fun r hr=>af4.right (k.rules r hr) k.kind (k.none (fun e=>by rw[e] at hr;simp at hr)) h.looks.1.1⟩
 aeX:=fun x hx=>by
  have k:=h.looks.2.2 x hx;refine⟨k.name,fun n hn=> ?_⟩;obtain⟨a1,a2⟩:=k.aeO n hn;have:=h.looks.1.1;unfold N9;omega
 few:=by have:=h.aeN.few;omega
theorem QD (w:World)(f:Fnt)(A1 A2 A3 A4 A5 A6 A7 A8:Option Addr)(c1 c2 c3 c4 c5 c6 c7 c8:Nat)(hF:FIn ⟨A1,c1,A2,c2,A3,c3,A4,c4,A5,c5,A6,c6,A7,c7,A8,c8⟩ f w)(hB:afj f):Calls Tryd.prog 12 #[.agg #[.int .i64 f.unit,.slice A1 f.aeN.length c1,.slice A2 f.chars.length c2,.slice A3 f.aeO.length c3,.slice A4 f.features.length c4,.slice A5 f.aeP.length c5,.slice A6 f.regions.length c6,.slice A7 f.funcs.length c7,.slice A8 f.cvt.length c8]] w (OkB w (afx f)):=by
 obtain⟨P,HP⟩:∃P:Prop,Hid (P=(afx f)):=⟨_,rfl⟩
 rw[<-HP.out];obtain⟨Wf,hWf,hbf,bD⟩:=aB w 32 #[.int .i64 f.unit,.slice A1 f.aeN.length c1,.slice A2 f.chars.length c2,.slice A3 f.aeO.length c3,.slice A4 f.features.length c4,.slice A5 f.aeP.length c5,.slice A6 f.regions.length c6,.slice A7 f.funcs.length c7,.slice A8 f.cvt.length c8];have aS:Hid (Below w.heap.size w Wf):=hd0 hbf;have iM:=hd0 bD;have hF1:=hF.below hbf;have HO:=hd0 (Rw Wf f A1 A2 A3 A4 A5 A6 A7 A8 c1 c2 c3 c4 c5 c6 c7 c8 hF1 hB);obtain⟨k0,k1,k2,k3,k4,k5,k6,k7,k8⟩:=nine bD (agE _ _);clear hF hF1 hbf bD;go_enter Tryd.func12,Tryd.ntmps12
 go_wp2_with fail
 try clear hWf
 refine HO.out.mono ?_;rintro e w3 ⟨r,a,rfl,hr,hb3⟩;have HR:Hid ((r==0)=true->afx f):=hd0 fun h=>hr (by simpa using h)
 have E3:Hid (Below w.heap.size w w3):=hd0 (aS.out.trans (hb3.mono aS.out.size));clear HO hr hb3;have hfd:(Instr.field 107 (.agg #[.int .i64 r,.int .i64 a]) 0).run Tryd.prog w3= .ok (.int .i64 r) w3:=by
  first
   |(simp[Instr.field,partOf,sizeOf,Tryd.underlying107];done)
   |rfl
   |(unfold Instr.field;simp;rfl)
 go_wp2_with fail
 try go_ret
 exact⟨_,rfl,fun h=>HP.out.mpr (HR.out h),E3.out⟩
def abT (w:World)(e:Ending)(w':World):Prop:=∃b:Bool,e= .returned (.bool b)/\Below w.heap.size w w'
theorem Jt (n:Nat):∃q:Nat,(n:Int).tdiv 100=(q:Int)/\q<=n:=⟨n / 100,by rw[Int.tdiv_eq_ediv_of_nonneg (by omega)];omega,Nat.div_le_self _ _⟩
theorem WR (w:World)(f:Fnt)(A1 A2 A3 A4 A5 A6 A7 A8:Option Addr)(c1 c2 c3 c4 c5 c6 c7 c8:Nat)(hF:FIn ⟨A1,c1,A2,c2,A3,c3,A4,c4,A5,c5,A6,c6,A7,c7,A8,c8⟩ f w)(hB:afj f):Calls Tryd.prog 11 #[.agg #[.int .i64 f.unit,.slice A1 f.aeN.length c1,.slice A2 f.chars.length c2,.slice A3 f.aeO.length c3,.slice A4 f.features.length c4,.slice A5 f.aeP.length c5,.slice A6 f.regions.length c6,.slice A7 f.funcs.length c7,.slice A8 f.cvt.length c8]] w (abT w):=by
 obtain⟨Wf,hWf,hbf,bD⟩:=aB w 32 #[.int .i64 f.unit,.slice A1 f.aeN.length c1,.slice A2 f.chars.length c2,.slice A3 f.aeO.length c3,.slice A4 f.features.length c4,.slice A5 f.aeP.length c5,.slice A6 f.regions.length c6,.slice A7 f.funcs.length c7,.slice A8 f.cvt.length c8];have aS:Hid (Below w.heap.size w Wf):=hd0 hbf;have iM:=hd0 bD;have HF:=hd0 (hF.below hbf);obtain⟨k0,k1,k2,k3,k4,k5,k6,k7,k8⟩:=nine bD (agE _ _);have zf:=hbf.size;have b1:=hB.aeN;have b2:=hB.chars;have b3:=hB.aeO;have b4:=hB.aeX;have b5:=hB.aeP;have b6:=hB.regs;have b7:=hB.funcs;have b8:=hB.cvt;unfold Big at b1 b2 b3 b4 b5 b6 b7 b8;have HB:=hd0 hB;clear hF hB hbf bD;go_enter Tryd.func11,Tryd.ntmps11
 go_upto_block 0 with fail
 try clear hWf
 clear k0 k1 k2 k3 k4 k5 k6 k7 k8;go_cut [3,4,5] from 41 to 83 (fun n _ _ wx=>∃z:Int,n= .int .i64 z/\0<=z/\z<=100000000000000/\Below Wf.heap.size Wf wx)
 case first=>
  go_wp2_with fail
  go_loopw [3,4] (fun n i wr=>∃(k:Nat) (z:Int),k<=f.aeN.length/\n= .int .i64 z/\i= .int .i64 k/\0<=z/\z<=100000000000000/\Below Wf.heap.size Wf wr) (fun _ i _=>f.aeN.length - (intOf i).toNat)
  case atStart=>exact⟨0,_,by omega,rfl,rfl,by omega,by omega,agE _ _⟩
  case round=>
   obtain⟨wv,rfl⟩:∃x,x=wr:=⟨_,rfl⟩
   obtain⟨k,z,hk,rfl,rfl,hz0,hz1,hb⟩:=hrel;have nC:Hid (Below Wf.heap.size Wf wv):=hd0 hb;have k1:=iM.out.at hb 1 rfl;by_cases hlt:k<f.aeN.length
   ·have bk:decide ((k:Int)<(f.aeN.length:Int))=true:=decide_eq_true (by omega);by_cases hz:z<=2000
    ·have bz:decide (z<=2000)=true:=decide_eq_true hz;obtain⟨b,o,x,B3,d3,B4,d4,B5,d5,B6,d6,B7,d7,B8,d8,rfl,hbl,hx,q0,q1,q2,q3,q4,q5,q6,q7,q8,-⟩:=(HF.out.aeN.lw aeU.ok hb).aeT hlt;have hG:=HB.out.aeT x (agM hx.out);obtain⟨g0,g3,g4,g5,g6,g7,g8⟩:=hG;unfold Big at g0 g3 g4 g5 g6 g7 g8;obtain⟨qq,hq1,hq2⟩:=Jt x.name.length;obtain⟨Wg,kZ,hbg,hkg⟩:=aB wv 57 #[.string ⟨x.name.toArray⟩,.int .i64 x.advance,.bool x.mark,.slice B3 x.points.length d3,.slice B4 x.ends.length d4,.slice B5 x.parts.length d5,.slice B6 x.anchors.length d6,.slice B7 x.deltas.length d7,.slice B8 x.hint.length d8];obtain⟨m0,m1,m2,m3,m4,m5,m6,m7,m8⟩:=nine hkg (agE _ _);have bV:Hid (Below Wf.heap.size Wf Wg):=hd0 (hb.trans (hbg.mono hb.size));clear hb hbl hx hbg hkg;go_wp2_with fail
     try clear kZ
     go_roundw
     case rel=>exact⟨k+1,_,by omega,rfl,by simp,by omega,by omega,bV.out⟩
     case measure=>simp[intOf];omega
    have bz:decide (z<=2000)=false:=decide_eq_false hz;clear hb;go_wp2_with fail
    go_meet
    exact⟨z,rfl,hz0,hz1,nC.out⟩
   have bk:decide ((k:Int)<(f.aeN.length:Int))=false:=decide_eq_false (by omega);clear hb;go_wp2_with fail
   go_meet
   exact⟨z,rfl,hz0,hz1,nC.out⟩
 case rest=>
 obtain⟨z,rfl,hz0,hz1,hc⟩:=hcut
 try clear HC
 have HC:Hid (Below Wf.heap.size Wf wc):=hd0 hc;clear hc
 go_upto_block 2 with fail
 go_cut [3,6] from 84 to 103 (fun n _ wx=>∃z:Int,n= .int .i64 z/\0<=z/\z<=100000000000000/\Below Wf.heap.size Wf wx)
 case first=>
  go_wp2_with fail
  go_loopw [3,6] (fun n i wr=>∃(k:Nat) (z:Int),k<=f.aeO.length/\n= .int .i64 z/\i= .int .i64 k/\0<=z/\z<=100000000000000/\Below Wf.heap.size Wf wr) (fun _ i _=>f.aeO.length - (intOf i).toNat)
  case atStart=>exact⟨0,_,by omega,rfl,rfl,by omega,by omega,HC.out⟩
  case round=>
   obtain⟨wv,rfl⟩:∃x,x=wr:=⟨_,rfl⟩
   obtain⟨k,z,hk,rfl,rfl,hz0,hz1,hb⟩:=hrel;have nC:Hid (Below Wf.heap.size Wf wv):=hd0 hb;have k3:=iM.out.at hb 3 rfl;by_cases hlt:k<f.aeO.length
   ·have bk:decide ((k:Int)<(f.aeO.length:Int))=true:=decide_eq_true (by omega);by_cases hz:z<=2000
    ·have bz:decide (z<=2000)=true:=decide_eq_true hz;obtain⟨b,o,x,B2,d2,rfl,hbl,hx,q0,q1,q2,r1,s2⟩:=(HF.out.aeO.lw aeV.ok hb).lookup hlt;have hG:=HB.out.look x (agM hx.out);have HO:=hd0 (Nl wv B2 d2 x.rules s2 hG.rules hG.rule);clear hb hbl hx r1 s2 hG;go_wp2_with fail
     refine HO.out.mono ?_;rintro e w4 ⟨u,rfl,hu0,hu1,hb4⟩;have HB4:Hid (Below Wf.heap.size Wf w4):=hd0 (nC.out.trans (hb4.mono nC.out.size));clear HO hb4 q0 q1 q2;go_wp2_with fail
     go_roundw
     case rel=>exact⟨k+1,_,by omega,rfl,by simp,by omega,by omega,HB4.out⟩
     case measure=>simp[intOf];omega
    have bz:decide (z<=2000)=false:=decide_eq_false hz;clear hb;go_wp2_with fail
    go_meet
    exact⟨z,rfl,hz0,hz1,nC.out⟩
   have bk:decide ((k:Int)<(f.aeO.length:Int))=false:=decide_eq_false (by omega);clear hb;go_wp2_with fail
   go_meet
   exact⟨z,rfl,hz0,hz1,nC.out⟩
 case rest=>
 obtain⟨z,rfl,hz0,hz1,hc⟩:=hcut
 try clear HC
 have HC:Hid (Below Wf.heap.size Wf wc):=hd0 hc;clear hc
 go_upto_block 4 with fail
 go_cut [3,7] from 104 to 122 (fun n _ wx=>∃z:Int,n= .int .i64 z/\0<=z/\z<=100000000000000/\Below Wf.heap.size Wf wx)
 case first=>
  go_wp2_with fail
  go_loopw [3,7] (fun n i wr=>∃(k:Nat) (z:Int),k<=f.funcs.length/\n= .int .i64 z/\i= .int .i64 k/\0<=z/\z<=100000000000000/\Below Wf.heap.size Wf wr) (fun _ i _=>f.funcs.length - (intOf i).toNat)
  case atStart=>exact⟨0,_,by omega,rfl,rfl,by omega,by omega,HC.out⟩
  case round=>
   obtain⟨wv,rfl⟩:∃x,x=wr:=⟨_,rfl⟩
   obtain⟨k,z,hk,rfl,rfl,hz0,hz1,hb⟩:=hrel;have nC:Hid (Below Wf.heap.size Wf wv):=hd0 hb;have k7:=iM.out.at hb 7 rfl;by_cases hlt:k<f.funcs.length
   ·have bk:decide ((k:Int)<(f.funcs.length:Int))=true:=decide_eq_true (by omega);by_cases hz:z<=2000
    ·have bz:decide (z<=2000)=true:=decide_eq_true hz;obtain⟨b,o,x,B2,d2,rfl,hbl,hx,q0,s2⟩:=(HF.out.funcs.lw ae1.ok hb).code hlt;have hG:=HB.out.func x (agM hx.out);unfold Big at hG;clear hb hbl hx s2;go_wp2_with fail
     go_roundw
     case rel=>exact⟨k+1,_,by omega,rfl,by simp,by omega,by omega,nC.out⟩
     case measure=>simp[intOf];omega
    have bz:decide (z<=2000)=false:=decide_eq_false hz;clear hb;go_wp2_with fail
    go_meet
    exact⟨z,rfl,hz0,hz1,nC.out⟩
   have bk:decide ((k:Int)<(f.funcs.length:Int))=false:=decide_eq_false (by omega);clear hb;go_wp2_with fail
   go_meet
   exact⟨z,rfl,hz0,hz1,nC.out⟩
 case rest=>
 obtain⟨z,rfl,hz0,hz1,hc⟩:=hcut
 try clear HC
 have HC:Hid (Below Wf.heap.size Wf wc):=hd0 hc;clear hc
 go_upto_block 6 with fail
 go_cut [3,8] from 123 to 151 (fun n _ wx=>∃z:Int,n= .int .i64 z/\0<=z/\z<=100000000000000/\Below Wf.heap.size Wf wx)
 case first=>
  go_wp2_with fail
  go_loopw [3,8] (fun n i wr=>∃(k:Nat) (z:Int),k<=f.features.length/\n= .int .i64 z/\i= .int .i64 k/\0<=z/\z<=100000000000000/\Below Wf.heap.size Wf wr) (fun _ i _=>f.features.length - (intOf i).toNat)
  case atStart=>exact⟨0,_,by omega,rfl,rfl,by omega,by omega,HC.out⟩
  case round=>
   obtain⟨wv,rfl⟩:∃x,x=wr:=⟨_,rfl⟩
   obtain⟨k,z,hk,rfl,rfl,hz0,hz1,hb⟩:=hrel;have nC:Hid (Below Wf.heap.size Wf wv):=hd0 hb;have k4:=iM.out.at hb 4 rfl;by_cases hlt:k<f.features.length
   ·have bk:decide ((k:Int)<(f.features.length:Int))=true:=decide_eq_true (by omega);by_cases hz:z<=2000
    ·have bz:decide (z<=2000)=true:=decide_eq_true hz;obtain⟨b,o,x,B2,d2,rfl,hbl,hx,q0,q1,s2⟩:=(HF.out.aeX.lw aeW.ok hb).afH hlt;obtain⟨hG1,hG2⟩:=HB.out.afY x (agM hx.out);unfold Big at hG1 hG2;obtain⟨qq,hq1,hq2⟩:=Jt x.name.length;clear hb hbl hx s2;have w1:IntKind.i64.wrap (z+x.aeO.length)=z+x.aeO.length:=IntWalk.i64_in _ (by omega);have w2:IntKind.i64.wrap (z+x.aeO.length+qq)=z+x.aeO.length+qq:=IntWalk.i64_in _ (by omega);go_wp2_with fail
     go_region
     go_wp2_with fail
     go_roundw
     case rel=>exact⟨k+1,_,by omega,rfl,by simp,by omega,by omega,(by first|exact nC.out.drew|exact below_drewN nC.out _)⟩
     case measure=>simp[intOf];omega
    have bz:decide (z<=2000)=false:=decide_eq_false hz;clear hb;go_wp2_with fail
    go_meet
    exact⟨z,rfl,hz0,hz1,nC.out⟩
   have bk:decide ((k:Int)<(f.features.length:Int))=false:=decide_eq_false (by omega);clear hb;go_wp2_with fail
   go_meet
   exact⟨z,rfl,hz0,hz1,nC.out⟩
 case rest=>
 obtain⟨z,rfl,hz0,hz1,hc⟩:=hcut
 try clear HC
 have HC:Hid (Below Wf.heap.size Wf wc):=hd0 hc;clear hc
 go_upto_block 8 with fail
 go_cut [3,9] from 152 to 171 (fun n _ wx=>∃z:Int,n= .int .i64 z/\0<=z/\z<=100000000000000/\Below Wf.heap.size Wf wx)
 case first=>
  go_wp2_with fail
  go_loopw [3,9] (fun n i wr=>∃(k:Nat) (z:Int),k<=f.regions.length/\n= .int .i64 z/\i= .int .i64 k/\0<=z/\z<=100000000000000/\Below Wf.heap.size Wf wr) (fun _ i _=>f.regions.length - (intOf i).toNat)
  case atStart=>exact⟨0,_,by omega,rfl,rfl,by omega,by omega,HC.out⟩
  case round=>
   obtain⟨wv,rfl⟩:∃x,x=wr:=⟨_,rfl⟩
   obtain⟨k,z,hk,rfl,rfl,hz0,hz1,hb⟩:=hrel;have nC:Hid (Below Wf.heap.size Wf wv):=hd0 hb;have k6:=iM.out.at hb 6 rfl;by_cases hlt:k<f.regions.length
   ·have bk:decide ((k:Int)<(f.regions.length:Int))=true:=decide_eq_true (by omega);by_cases hz:z<=2000
    ·have bz:decide (z<=2000)=true:=decide_eq_true hz;obtain⟨b,o,x,B2,d2,rfl,hbl,hx,q0,s2⟩:=(HF.out.regs.lw aeY.ok hb).region hlt;have hG:=HB.out.reg x (agM hx.out);unfold Big at hG;clear hb hbl hx s2;go_wp2_with fail
     go_roundw
     case rel=>exact⟨k+1,_,by omega,rfl,by simp,by omega,by omega,nC.out⟩
     case measure=>simp[intOf];omega
    have bz:decide (z<=2000)=false:=decide_eq_false hz;clear hb;go_wp2_with fail
    go_meet
    exact⟨z,rfl,hz0,hz1,nC.out⟩
   have bk:decide ((k:Int)<(f.regions.length:Int))=false:=decide_eq_false (by omega);clear hb;go_wp2_with fail
   go_meet
   exact⟨z,rfl,hz0,hz1,nC.out⟩
 case rest=>
 obtain⟨z,rfl,hz0,hz1,hc⟩:=hcut
 try clear HC
 have HC:Hid (Below Wf.heap.size Wf wc):=hd0 hc;clear hc;have HE:Hid (Below w.heap.size w wc):=hd0 (aS.out.trans (HC.out.mono zf));go_wp2_with fail
 go_ret
 exact⟨_,rfl,HE.out⟩
theorem YZ (n:Nat)(s:List Int):∀k:Int,k<=n->s.Pairwise (· < ·)->(∀x∈s,k<=x/\x<n)->k+s.length<=n:=by
 induction s with
 |nil=>intro k hk _ _;simpa using hk
 |cons a r ih=>intro k _ hp h;rw[List.pairwise_cons] at hp;have h0:=h a (by simp);have:=ih (a+1) (by omega) hp.2 (fun x hx=>⟨by have:=hp.1 x hx;omega,(h x (by simp[hx])).2⟩);rw[aV];omega
theorem OkS.len {n:Nat}{s:List Int}(h:OkS n s):s.length<=n:=by have:=YZ n s 0 (by omega) h.1 (fun x hx=>h.2 x hx);omega
structure CpR (r:ae4):Prop where
 rows:r.back.length<=6/\r.in'.length<=6/\r.ahead.length<=6
 sets:(∀s∈r.back,s.length<=400)/\(∀s∈r.in',s.length<=400)/\∀s∈r.ahead,s.length<=400
 outs:r.out.length<=400/\r.calls.length<=6
structure CpG (g:aeS):Prop where
 pts:g.points.length<=200
 ends:g.ends.length<=40
 parts:g.parts.length<=8
 anch:g.anchors.length<=16
 ae3:g.deltas.length<=400
 hint:g.hint.length<=200
structure CpF (f:Fnt):Prop where
 aeN:f.aeN.length<=400/\∀g∈f.aeN,CpG g
 chars:f.chars.length<=1000
 aeO:f.aeO.length<=40/\∀l∈f.aeO,l.rules.length<=60/\∀r∈l.rules,CpR r
 aeX:f.features.length<=20/\∀x∈f.features,x.aeO.length<=40
 aeP:f.aeP.length<=3
 regs:f.regions.length<=16/\∀r∈f.regions,r.ae0.length<=3
 funcs:f.funcs.length<=20/\∀p∈f.funcs,p.length<=200
 cvt:f.cvt.length<=64
theorem afW.cp {n m:Nat}{kd:Int}{r:ae4}(h:afW n m kd r)(hn:n<=400):CpR r where
 rows:=h.shape.1
 sets:=⟨fun s hs=>nt (h.sets s (by simp[hs])).len hn,fun s hs=>nt (h.sets s (by simp[hs])).len hn,fun s hs=>nt (h.sets s (by simp[hs])).len hn⟩
 outs:=by
  refine⟨?_,nt h.outs.few (by decide)⟩;obtain⟨w1,w2,w3,w4⟩:=h.outs.w;by_cases k1:kd=1\/kd=5
  ·cases hi:r.in' with
   |nil=>exact absurd hi h.shape.2.1
   |cons s t=>have:=w1 k1 s (by rw[hi];rfl);have:=(h.sets s (by rw[hi];simp)).len;omega
  by_cases k2:kd=2
  ·have:=w2 k2;omega
  by_cases k3:kd=3
  ·have:=w3 k3;omega
  rw[w4 (by omega) k2 k3 (by omega)];simp
theorem afx.cp {f:Fnt}(h:afx f):CpF f where
 aeN:=⟨h.aeN.few,fun g hg=>by
  have k:=h.aeN.each g hg;exact⟨k.pts.1,k.ends.1,k.parts.1,k.anch.1,k.ae3.1,k.hint.1⟩⟩
 chars:=h.chars.1
 aeO:=⟨h.looks.1.1,fun l hl=>⟨(h.looks.1.2 l hl).few,fun r hr=>((h.looks.1.2 l hl).rules r hr).cp h.aeN.few⟩⟩
 aeX:=⟨h.looks.2.1,fun x hx=>nt (h.looks.2.2 x hx).few h.looks.1.1⟩
 aeP:=h.aeP.1.1
 regs:=⟨h.aeP.2.1,fun r hr=>by have:=(h.aeP.2.2 r hr).1;have:=h.aeP.1.1;omega⟩
 funcs:=⟨h.afV.1.1,fun p hp=>(h.afV.1.2 p hp).1⟩
 cvt:=h.afV.2.1
theorem CpF.cap {f:Fnt}(h:CpF f):agd f where
 aeN:=⟨by have:=h.aeN.1;omega,fun g hg=>by
  have k:=h.aeN.2 g hg;exact⟨by have:=k.pts;omega,by have:=k.ends;omega,by have:=k.parts;omega,by have:=k.anch;omega,by have:=k.ae3;omega,by have:=k.hint;omega⟩⟩
 chars:=h.chars
 aeO:=⟨by have:=h.aeO.1;omega,fun l hl=>⟨by have:=(h.aeO.2 l hl).1;omega,fun r hr=>by
  have k:=(h.aeO.2 l hl).2 r hr;obtain⟨a,b,c⟩:=k.rows;obtain⟨d,e⟩:=k.outs;exact⟨⟨by omega,by omega,by omega⟩,by omega,by omega⟩⟩⟩
 aeX:=⟨by have:=h.aeX.1;omega,fun x hx=>by have:=h.aeX.2 x hx;omega⟩
 aeP:=by have:=h.aeP;omega
 regs:=⟨by have:=h.regs.1;omega,fun x hx=>by have:=h.regs.2 x hx;omega⟩
 funcs:=⟨by have:=h.funcs.1;omega,fun x hx=>by have:=h.funcs.2 x hx;omega⟩
 cvt:=by have:=h.cvt;omega
theorem KI {p:List Ins}(h:jr p)(hl:p.length<=200){a:B}(ha:a.length<=32):Lk [a::p.map bW] 6634:=Lk.line (n:=201) (.cons ha (Oh h)) (by rw[aV,agL];omega)
theorem Rt {gs:List aeS}(hn:∀g∈gs,nameB g.name=true)(all:Bool){g:aeS}(h:OkG gs.length g)(hs:CpG g):Lk (nU gs all g) 342247:=by
 unfold nU;have e:342247=133+(40*6634+(8*133+(16*166+(400*166+6634)))):=rfl;rw[e];obtain⟨c1,c2⟩:=EP g.points g.ends 0;refine .cons (Lk.line (n:=4) (.cons (by decide) (.cons (nt (iH h.name) (by decide)) (.cons (n32 h.adv) ?_))) ?_) (.app (.map (fun c hc=> ?_) (nt c1 hs.ends)) (.app (.map (fun p hp=> ?_) hs.parts) (.app (.map (fun a ha=> ?_) hs.anch) (.app (.map (fun d hd=> ?_) hs.ae3) ?_))))
 ·split
  ·exact .cons (by decide) .nil
  exact .nil
 ·unfold ET;simp only[aV];split<;>simp
 ·obtain⟨d1,d2⟩:=c2 c hc;exact Lk.line (n:=201) (.cons (by decide) (.map fun p hp=>PU (h.pts p (d2 p hp)))) (by unfold G9;rw[aV,agL];have:=hs.pts;omega)
 ·have:=h.parts p hp;exact Lk.line (n:=4) (.cons (by decide) (.cons (mg hn this.1) (.cons (n32 this.2.1) (.cons (n32 this.2.2) .nil)))) (by simp[wu])
 ·have:=h.anch a ha;exact Lk.line (n:=5) (.cons (by decide) (.cons (nt (ry _ 9 EO (by decide) _) (by decide)) (.cons (n32 this.2.2.1) (.cons (n32 this.2.2.2.1) (.cons (n32 this.2.2.2.2) .nil))))) (by simp[wQ])
 ·have:=h.ae3 d hd;exact Lk.line (n:=5) (.cons (by decide) (.cons (n32 this.1) (.cons (n32 this.2.1) (.cons (n32 this.2.2.1) (.cons (n32 this.2.2.2) .nil))))) (by simp[xU])
 split
 ·exact KI h.hint hs.hint (by decide)
 exact .nil _
theorem CQ {gs:List aeS}(hn:∀g∈gs,nameB g.name=true)(l:List (List Int))(h:∀s∈l,∀n∈s,In gs.length n)(h4:∀s∈l,s.length<=400)(h3:l.length<=6):W32 (bi gs l)/\(bi gs l).length<=2412:=by
 unfold bi;refine⟨.flat fun s hs=> ?_,jT l _ 402 6 (fun s hs=> ?_) h3⟩
 ·unfold setW;split
  ·exact .cons (mg hn (h _ hs _ (by simp))) .nil
  exact(W32.cons (by decide) (.map fun n hn'=>mg hn (h s hs n hn'))).app (.cons (by decide) .nil)
 have:=h4 s hs;unfold setW;split
 ·simp
 simp only[agU,aV,la,agL,ln];omega
theorem UY {gs:List aeS}(hn:∀g∈gs,nameB g.name=true){kind:Int}{r:ae4}(h:OkR gs.length kind r)(hs:CpR r):
  Lk [dC::(bi gs r.back++[47]::bi gs r.in'++[47]::bi gs r.ahead++[62]::outW gs kind r)] 252121:=by
 obtain⟨a1,a2⟩:=CQ hn r.back (fun s hs=>(h.back s hs).2) hs.sets.1 hs.rows.1;obtain⟨b1,b2⟩:=CQ hn r.in' (fun s hs=>(h.in' s hs).2) hs.sets.2.1 hs.rows.2.1;obtain⟨c1,c2⟩:=CQ hn r.ahead (fun s hs=>(h.ahead s hs).2) hs.sets.2.2 hs.rows.2.2;have ho:W32 (outW gs kind r)/\(outW gs kind r).length<=400:=by
  unfold outW;split
  ·exact⟨.map fun n hn'=>mg hn (h.out n hn'),by rw[agL];exact hs.outs.1⟩
  split
  ·exact⟨.map fun c hc=>Gy (h.calls c hc),by rw[agL];have:=hs.outs.2;omega⟩
  split
  ·exact⟨.cons (n32 h.x) .nil,by simp⟩
  exact⟨.nil,by simp⟩
 refine Lk.line (n:=7640) (.cons (by decide) ((((a1.app (.cons (by decide) b1)).app (.cons (by decide) c1))).app (.cons (by decide) ho.1))) ?_;simp only[aV,la];omega
theorem Pn {gs:List aeS}(hn:∀g∈gs,nameB g.name=true){l:Lookup}(h:∀r∈l.rules,OkR gs.length l.kind r)(hs:l.rules.length<=60/\∀r∈l.rules,CpR r):Lk (uh gs (bi gs) l) 15127360:=by
 unfold uh;have e:15127360=100+60*252121:=rfl;rw[e];refine .cons (Lk.line (n:=3) (.cons (by decide) (.cons (nt (ry _ 9 G7 (by decide) _) (by decide)) ?_)) ?_) (.map (fun r hr=>UY hn (h r hr) (hs.2 r hr)) hs.1)
 ·split
  ·exact .cons (by decide) .nil
  exact .nil
 unfold EQ;simp only[aV];split<;>simp
theorem aaA {f:Fnt}(h:afs f)(hs:CpF f):(gp f).length<=750000000:=by
 have hN:=mr h;have ha:Lk (f.aeP.map su) (3*166):= .map (fun a ha=>by
  have:=h.aeP a ha;exact Lk.line (n:=5) (.cons (by decide) (.cons (nt (iH this.1) (by decide)) (.cons (n32 this.2.1) (.cons (n32 this.2.2.1) (.cons (n32 this.2.2.2) .nil))))) (by simp[su])) hs.aeP
 have hr:Lk (f.regions.map ui) (16*331):= .map (fun r hr=>by
  have:=h.regs r hr;refine Lk.line (n:=10) (.cons (by decide) (.flat fun t ht=> .cons (n32 (this t ht).1) (.cons (n32 (this t ht).2.1) (.cons (n32 (this t ht).2.2) .nil)))) ?_;have:=jT r.ae0 iy 3 3 (fun t _=>by simp[iy]) (hs.regs.2 r hr);unfold ui;rw[aV];omega) hs.regs.1
 have hf:Lk (f.funcs.map Eb) (20*6634):= .map (fun p hp=>KI (h.funcs p hp) (hs.funcs.2 p hp) (by decide)) hs.funcs.1;have hg:Lk (f.aeN.flatMap (nU f.aeN false)) (400*342247):= .flat (fun g hg=>Rt hN false (h.aeN g hg) (hs.aeN.2 g hg)) hs.aeN.1;have hch:Lk (f.chars.map (sD f.aeN)) (1000*100):= .map (fun c hc=>Lk.line (n:=3) (.cons (by decide) (.cons (n32 (h.chars c hc).1) (.cons (mg hN (h.chars c hc).2) .nil))) (by simp[sD])) hs.chars;have hx:Lk (f.features.map vX) (20*1387):= .map (fun x hx=>Lk.line (n:=42) (.cons (by decide) (.cons (nt (iH (h.aeX x hx).1) (by decide)) (.it (h.aeX x hx).2))) (by
  have:=hs.aeX.2 x hx;simp only[vX,aV,agL];omega)) hs.aeX.1
 have hl:Lk (f.aeO.flatMap (uh f.aeN (bi f.aeN))) (40*15127360):= .flat (fun l hl=>Pn hN (h.aeO l hl).2.2 (hs.aeO.2 l hl)) hs.aeO.1;have hc:Lk (if f.cvt.isEmpty then [] else [lY::f.cvt.map af]) 2146:=by
  split
  ·exact .nil _
  exact Lk.line (n:=65) (.cons (by decide) (.it h.cvt)) (by have:=hs.cvt;simp only[aV,agL];omega)
 have key:Lk (pF f) 750000000:=by unfold pF;exact .mono ((Kq h).app (ha.app (hr.app (hc.app (hf.app (hg.app (hch.app (hl.app hx)))))))) (by decide)
 rw[<-vI];exact key
theorem afx.len {f:Fnt}(h:afx f):(gp f).length<=750000000:=aaA h.right h.cp
theorem afx.print {f:Fnt}(h:afx f):(eF f).length<=100000000000000:=tC h.right h.cp.cap
abbrev bJ:TypeId:=78
abbrev pI:TypeId:=80
def TR (ts:List TypeId)(lo hi:Nat)(w:World):Bs:=fun b=>(lo<=b/\b<hi)/\∃cs t,Bk w b t cs/\t∈ts
theorem TR.of {ts:List TypeId}{base:Nat}{w:World}:∀b,TS ts base w b->TR ts base w.heap.size w b:=fun b h=>⟨⟨h.1,TS.lt b h⟩,h.2⟩
theorem TR.ts {ts ts':List TypeId}{lo hi base:Nat}{w:World}(h:∀t∈ts,t∈ts')(hb:base<=lo):∀b,TR ts lo hi w b->TS ts' base w b:=fun b ⟨⟨h1,h2⟩,cs,t,h3,h4⟩=>⟨by omega,cs,t,h3,h t h4⟩
section
variable {α:Type} {R:Rel α} {size:Nat} {w w':World} {ts:List TypeId} {lo hi:Nat} {A:Option Addr} {xs:List α} {cs:List Value}
theorem TR.step {row:Option Nat}(hg:w.grownBy w' row)(hr:∀x,row=some x->x<lo\/hi<=x):Same (TR ts lo hi w) w w'/\∀b,TR ts lo hi w b->TR ts lo hi w' b:=by
 have key:∀b,TR ts lo hi w b->w'.heap[b]? =w.heap[b]? :=fun b ⟨⟨h1,h2⟩,cs,t,hk,ht⟩=>hg.block b hk.lt (fun e=>by have:=hr b e.symm;omega)
 exact⟨key,fun b hb=>by
  obtain⟨h1,cs,t,hk,ht⟩:=hb;exact⟨h1,cs,t,(key b ⟨h1,cs,t,hk,ht⟩).trans hk,ht⟩⟩
theorem Frz.of (ok:R.Ok){base:Nat}(h:Sl R size w (TS ts base w) A xs):Sl R size w (TR ts base w.heap.size w) A xs:=h.mono ok TR.of
theorem Frz.below (ok:R.Ok)(h:Sl R size w (TR ts lo hi w) A xs)(hb:Below w.heap.size w w'):Sl R size w' (TR ts lo hi w') A xs:=h.moved ok (TR.step (dm hb none) (fun x hx=>by cases hx))
theorem Frz.next (ok:R.Ok){m:Nat}(h:Sl R size w (TR ts lo hi w) A xs)(hm:m<lo)(hv:Mv m w w'):Sl R size w' (TR ts lo hi w') A xs:=h.moved ok (TR.step hv (fun x hx=>by injection hx with hx;exact .inl (by omega)))
theorem Frz.put (ok:R.Ok){g:Nat}(h:Sl R size w (TR ts lo hi w) A xs)(hg:g<lo\/hi<=g)(j:Nat)(u:Value):Sl R size (w.setCell ⟨g,j,none⟩ u) (TR ts lo hi (w.setCell ⟨g,j,none⟩ u)) A xs:=h.moved ok (TR.step (bU (World.grownBy.refl w (some g)) (.inl rfl) u) (fun x hx=>by injection hx with hx;rw[<-hx];exact hg))
theorem Frz.push (ok:R.Ok){base n:Nat}{e:TypeId}{s:Nat}{v:Value}{ys:List Value}(h:Sl R size w (TR ts lo hi w) A xs)(ho:w.ownsRow base e s v n ys)(hb:hi<=base)(hg:w.grownBy w' v.ownBlock):Sl R size w' (TR ts lo hi w') A xs:=h.moved ok (TR.step hg (fun x hx=> .inr (nt hb (ho.lt x hx).1)))
theorem Frz.row (ok:R.Ok){row:Option Nat}(h:Sl R size w (TR ts lo hi w) A xs)(hg:w.grownBy w' row)(hr:∀x,row=some x->x<lo\/hi<=x):Sl R size w' (TR ts lo hi w') A xs:=h.moved ok (TR.step hg hr)
theorem Frz.typed (ok:R.Ok){ts':List TypeId}{base:Nat}(h:Sl R size w (TR ts lo hi w) A xs)(hs:∀t∈ts,t∈ts')(hb:base<=lo):Sl R size w (TS ts' base w) A xs:=h.mono ok (TR.ts hs hb)
end
def dR:Array Value:= #[.slice none 0 0,.slice none 0 0,.slice none 0 0,.slice none 0 0,.slice none 0 0,.int .i64 0]
structure RS (w:World)(m:Nat)(fs:Nat->Value)(lp:Int)(v:Array Value)(wr:World):Prop where
 mkr:Mk wr m fs lp
 res:Bk wr w.heap.size bJ dR
 var:Bk wr (w.heap.size+1) bJ v
 mv:Mv m w wr
section
variable {w:World} {m:Nat} {fs:Nat->Value} {lp:Int} {v:Array Value} {wr w2:World}
theorem RS.begin (h:Mk w m fs lp):RS w m fs lp dR ((w.alloc (.cells dR bJ)).alloc (.cells dR bJ)):=by have b1:Below w.heap.size w ((w.alloc (.cells dR bJ)).alloc (.cells dR bJ)):=((agE _ _).alloc (ai _) _).alloc (by simp) _;refine⟨h.below b1,(Bk.new w _ _).alloc _,?_,iW (yA m w) b1⟩;have:=Bk.new (w.alloc (.cells dR bJ)) bJ dR;simpa using this
theorem RS.next (h:RS w m fs lp v wr){lp2:Int}(hm:Mk w2 m fs lp2)(hv:Mv m wr w2):RS w m fs lp2 v w2:=by have hs:=Sp.next h.mkr hv;exact⟨hm,hs.bk h.res (by decide),hs.bk h.var (by decide),eu h.mv hv⟩
theorem RS.below (h:RS w m fs lp v wr)(hb:Below wr.heap.size wr w2):RS w m fs lp v w2:=by have hs:Sp m aF wr w2:=Sp.below hb;exact⟨h.mkr.below hb,hs.bk h.res (by decide),hs.bk h.var (by decide),iW h.mv hb⟩
theorem RS.drew (h:RS w m fs lp v wr):RS w m fs lp v wr.drew:=h.below (agE _ _).drew
theorem RS.put (h:RS w m fs lp v wr)(hmw:m<w.heap.size)(j:Nat)(u:Value):RS w m fs lp (v.setIfInBounds j u) (wr.setCell ⟨w.heap.size+1,j,none⟩ u):=by have hs:Sp m bJ wr (wr.setCell ⟨w.heap.size+1,j,none⟩ u):=Sp.set h.var (by omega) j u;exact⟨hs.mk h.mkr (by decide),h.res.far (by simp) _,h.var.set j u,qC h.mv (by omega) _ _⟩
theorem RS.push (h:RS w m fs lp v wr)(hmw:m<w.heap.size){base n s:Nat}{e:TypeId}{u:Value}{xs:List Value}(ho:wr.ownsRow base e s u n xs)(hb:w.heap.size<=base)(h1:kw≠e)(h2:bJ≠e)(hg:wr.grownBy w2 u.ownBlock):RS w m fs lp v w2:=by have hs:Sp m e wr w2:=Sp.push ho (by omega) hg;exact⟨hs.mk h.mkr h1,hs.bk h.res h2,hs.bk h.var h2,jl h.mv ho hb hg⟩
theorem RS.cell (h:RS w m fs lp v wr)(j:Nat):wr.cell? ⟨w.heap.size+1,j,none⟩=v[j]? :=h.var.cell j
end
abbrev gX:List TypeId:=[aF,tRow,pI]
def jD (w:World)(m:Nat)(fs:Nat->Value)(lp:Int)(G:Nat)(kind:Int)(e:Ending)(w':World):Prop:=
 ∃(r:ae4) (A0 A1 A2 A3 A4:Option Addr) (c0 c1 c2 c3 c4:Nat),afa G kind r/\e= .returned (.agg #[.slice A0 r.back.length c0,.slice A1 r.in'.length c1,.slice A2 r.ahead.length c2,.slice A3 r.out.length c3,.slice A4 r.calls.length c4,.int .i64 r.x])/\I64 r.x/\
  Sl aeR 1 w' (TS gX w.heap.size w') A0 r.back/\Sl aeR 1 w' (TS gX w.heap.size w') A1 r.in'/\Sl aeR 1 w' (TS gX w.heap.size w') A2 r.ahead/\Sl aeQ 1 w' (TS gX w.heap.size w') A3 r.out/\Sl aff 2 w' (TS gX w.heap.size w') A4 r.calls/\Mk w' m fs lp/\Mv m w w'
section
variable {w:World} {m:Nat} {fs:Nat->Value} {lp:Int} {v:Array Value} {wr w2:World}
theorem RS.in0 (h:RS w m fs lp dR wr)(hmw:m<w.heap.size){lo:Nat}{As:Option Addr}{s:List Int}{cs:Nat}(hs:Sl aeQ 1 wr (TR [aF] lo wr.heap.size wr) As s)(hlo:w.heap.size+2<=lo)(hz:w.heap.size+2<=wr.heap.size)
  (hw:(wr.setCell ⟨w.heap.size+1,1,none⟩ (.slice (some ⟨wr.heap.size,0,none⟩) 1 1)).alloc (.cells #[.slice As s.length cs] tRow)=w2):
  RS w m fs lp #[.slice none 0 0,.slice (some ⟨wr.heap.size,0,none⟩) 1 1,.slice none 0 0,.slice none 0 0,.slice none 0 0,.int .i64 0] w2/\Sl aeQ 1 w2 (TR [aF] lo wr.heap.size w2) As s/\w2.ownsRow (w.heap.size+2) tRow 1 (.slice (some ⟨wr.heap.size,0,none⟩) 1 1) 1 [.slice As s.length cs]/\w2.heap.size=wr.heap.size+1:=by
 subst hw;have h2:=h.put hmw 1 (.slice (some ⟨wr.heap.size,0,none⟩) 1 1);have hb:Below (wr.setCell ⟨w.heap.size+1,1,none⟩ (.slice (some ⟨wr.heap.size,0,none⟩) 1 1)).heap.size (wr.setCell ⟨w.heap.size+1,1,none⟩ (.slice (some ⟨wr.heap.size,0,none⟩) 1 1)) ((wr.setCell ⟨w.heap.size+1,1,none⟩ (.slice (some ⟨wr.heap.size,0,none⟩) 1 1)).alloc (.cells #[.slice As s.length cs] tRow)):=(agE _ _).alloc (ai _) _;have ho:=qM (wr.setCell ⟨w.heap.size+1,1,none⟩ (.slice (some ⟨wr.heap.size,0,none⟩) 1 1)) (w.heap.size+2) tRow 1 1 #[.slice As s.length cs] (by simpa using hz) rfl (by omega);exact⟨h2.below hb,Frz.below aeQ.ok (Frz.put aeQ.ok hs (.inl (by omega)) 1 _) hb,by simpa using ho,by simp⟩
theorem RS.more (h:RS w m fs lp v wr)(hmw:m<w.heap.size){e t:TypeId}{size:Nat}(E:ElT e t size)(h1:kw≠e)(h2:bJ≠e){j n c:Nat}{A:Option Addr}{xs:List Value}{base:Nat}(hb:w.heap.size<=base)(hbz:base<=wr.heap.size)(hv:v[j]? =some (.slice A n c))(ho:wr.ownsRow base e size (.slice A n c) n xs)(news:Array Value)(hnl:news.size=size)(hone:∀u∈news.toList,u.oneCell'=true)(hn:n<=1000):
  ∃A5 c5 w9,(Builtin.append_ #[t,t] t #[.slice A n c,.slice (some ⟨wr.heap.size,0,none⟩) 1 1]).run Tryd.prog (wr.alloc (.cells news e))= .ok (.slice A5 (n+1) c5) w9/\
   w9.cell? ⟨w.heap.size+1,j,none⟩=some (.slice A n c)/\w9.frozen? ⟨w.heap.size+1,j,none⟩=false/\wr.grownBy w9 (Value.slice A n c).ownBlock/\w9.ownsRow base e size (.slice A5 (n+1) c5) (n+1) (xs++news.toList)/\RS w m fs lp v w9:=by
 obtain⟨A5,c5,w9,hrun,dG,dA,rE⟩:=bQ E t wr base n c A xs news hnl ho hone (by omega) hbz;have h9:=h.push hmw ho hb h1 h2 dA;exact⟨A5,c5,w9,hrun,by rw[h9.cell,hv],h9.var.frozen j,dA,dG,h9⟩
end
def AQ (W:World)(g:Nat)(a b c d e f:Value):World:=(((((W.setCell ⟨g,0,none⟩ a).setCell ⟨g,1,none⟩ b).setCell ⟨g,2,none⟩ c).setCell ⟨g,3,none⟩ d).setCell ⟨g,4,none⟩ e).setCell ⟨g,5,none⟩ f
theorem lS {a w:World}{g:Nat}(h:a.grownBy w (some g))(j:Nat)(u:Value):a.grownBy (w.setCell ⟨g,j,none⟩ u) (some g):=bU h (.inl rfl) u
theorem Ov (W:World)(g:Nat)(a b c d e f:Value):W.grownBy (AQ W g a b c d e f) (some g):=by have h0:=World.grownBy.refl W (some g);have h1:=lS h0 0 a;have h2:=lS h1 1 b;have h3:=lS h2 2 c;have h4:=lS h3 3 d;have h5:=lS h4 4 e;exact lS h5 5 f
theorem WU {W:World}{g:Nat}{t:TypeId}(hb:Bk W g t dR)(a b c d e f:Value):Bk (AQ W g a b c d e f) g t #[a,b,c,d,e,f]:=by have h0:=hb.set 0 a;have h1:=h0.set 1 b;have h2:=h1.set 2 c;have h3:=h2.set 3 d;have h4:=h3.set 4 e;exact h4.set 5 f
theorem iY {w:World}{m:Nat}{fs:Nat->Value}{lp:Int}{wr:World}{G:Nat}{kind:Int}{r:ae4}{A0 A1 A2 A3 A4:Option Addr}{c0 c1 c2 c3 c4:Nat}
  (h:RS w m fs lp #[.slice A0 r.back.length c0,.slice A1 r.in'.length c1,.slice A2 r.ahead.length c2,.slice A3 r.out.length c3,.slice A4 r.calls.length c4,.int .i64 r.x] wr) (hmw:m<w.heap.size) (hok:afa G kind r) (hx:I64 r.x)
  (s0:Sl aeR 1 wr (TS gX w.heap.size wr) A0 r.back) (s1:Sl aeR 1 wr (TS gX w.heap.size wr) A1 r.in') (s2:Sl aeR 1 wr (TS gX w.heap.size wr) A2 r.ahead) (s3:Sl aeQ 1 wr (TS gX w.heap.size wr) A3 r.out) (s4:Sl aff 2 wr (TS gX w.heap.size wr) A4 r.calls):
  Bk (AQ wr w.heap.size (.slice A0 r.back.length c0) (.slice A1 r.in'.length c1) (.slice A2 r.ahead.length c2) (.slice A3 r.out.length c3) (.slice A4 r.calls.length c4) (.int .i64 r.x)) w.heap.size bJ #[.slice A0 r.back.length c0,.slice A1 r.in'.length c1,.slice A2 r.ahead.length c2,.slice A3 r.out.length c3,.slice A4 r.calls.length c4,.int .i64 r.x]/\
   jD w m fs lp G kind (.returned (.agg #[.slice A0 r.back.length c0,.slice A1 r.in'.length c1,.slice A2 r.ahead.length c2,.slice A3 r.out.length c3,.slice A4 r.calls.length c4,.int .i64 r.x])) (AQ wr w.heap.size (.slice A0 r.back.length c0) (.slice A1 r.in'.length c1) (.slice A2 r.ahead.length c2) (.slice A3 r.out.length c3) (.slice A4 r.calls.length c4) (.int .i64 r.x)):=by
 have hg:=Ov wr w.heap.size (.slice A0 r.back.length c0) (.slice A1 r.in'.length c1) (.slice A2 r.ahead.length c2) (.slice A3 r.out.length c3) (.slice A4 r.calls.length c4) (.int .i64 r.x);have hbk:=WU h.res (.slice A0 r.back.length c0) (.slice A1 r.in'.length c1) (.slice A2 r.ahead.length c2) (.slice A3 r.out.length c3) (.slice A4 r.calls.length c4) (.int .i64 r.x);generalize AQ wr w.heap.size (.slice A0 r.back.length c0) (.slice A1 r.in'.length c1) (.slice A2 r.ahead.length c2) (.slice A3 r.out.length c3) (.slice A4 r.calls.length c4) (.int .i64 r.x)=W at*
 have sp:Sp m bJ wr W:=⟨_,hg,fun x hx=>by injection hx with hx;subst hx;exact⟨by omega,_,h.res⟩⟩
 exact⟨hbk,r,A0,A1,A2,A3,A4,c0,c1,c2,c3,c4,hok,rfl,hx,sp.sl aeR.ok (by decide) s0,sp.sl aeR.ok (by decide) s1,sp.sl aeR.ok (by decide) s2,sp.sl aeQ.ok (by decide) s3,sp.sl aff.ok (by decide) s4,sp.mk h.mkr (by decide),ql h.mv hg (fun x hx=>by injection hx with hx;exact .inl (by omega))⟩
structure RB (w:World)(m:Nat)(fs:Nat->Value)(lp:Int)(top:Nat)(lo1 hi1:Nat)(As:Option Addr)(s:List Int)(vi:Value)(ni:Nat)(ics:List Value)(aY hib:Nat)(Ab:Option Addr)(cb:Nat)(back:List (List Int))(aZ hia:Nat)(Aa:Option Addr)(ca:Nat)(ahead:List (List Int))(v3 v4:Value)(wr:World):Prop where
 rs:RS w m fs lp #[.slice Ab back.length cb,vi,.slice Aa ahead.length ca,v3,v4,.int .i64 0] wr
 set:Sl aeQ 1 wr (TR [aF] lo1 hi1 wr) As s
 inn:wr.ownsRow (w.heap.size+2) tRow 1 vi ni ics
 fb:Sl aeR 1 wr (TR [aF,tRow] aY hib wr) Ab back
 fa:Sl aeR 1 wr (TR [aF,tRow] aZ hia wr) Aa ahead
 bnd:w.heap.size+2<=top/\w.heap.size+2<=lo1/\hi1<=top/\w.heap.size+2<=aY/\hib<=top/\w.heap.size+2<=aZ/\hia<=top/\top<=wr.heap.size
section
variable {w:World} {m:Nat} {fs:Nat->Value} {lp:Int} {top lo1 hi1:Nat} {As:Option Addr} {s:List Int} {vi:Value} {ni:Nat} {ics:List Value} {aY hib:Nat} {Ab:Option Addr} {cb:Nat} {back:List (List Int)} {aZ hia:Nat} {Aa:Option Addr} {ca:Nat} {ahead:List (List Int)} {v3 v4:Value} {wr w2:World}
theorem RB.next (h:RB w m fs lp top lo1 hi1 As s vi ni ics aY hib Ab cb back aZ hia Aa ca ahead v3 v4 wr)(hmw:m<w.heap.size)(hm:Mk w2 m fs lp)(hv:Mv m wr w2):RB w m fs lp top lo1 hi1 As s vi ni ics aY hib Ab cb back aZ hia Aa ca ahead v3 v4 w2:=by obtain⟨b0,b1,b2,b3,b4,b5,b6,b7⟩:=h.bnd;have hz:=hv.size;exact⟨h.rs.next hm hv,Frz.next aeQ.ok h.set (by omega) hv,(Sp.next h.rs.mkr hv).own h.inn (by decide),Frz.next aeR.ok h.fb (by omega) hv,Frz.next aeR.ok h.fa (by omega) hv,b0,b1,b2,b3,b4,b5,b6,by omega⟩
theorem RB.drew (h:RB w m fs lp top lo1 hi1 As s vi ni ics aY hib Ab cb back aZ hia Aa ca ahead v3 v4 wr):RB w m fs lp top lo1 hi1 As s vi ni ics aY hib Ab cb back aZ hia Aa ca ahead v3 v4 wr.drew:=⟨h.rs.drew,h.set,h.inn,h.fb,h.fa,h.bnd⟩
theorem RB.afK (h:RB w m fs lp top lo1 hi1 As s vi ni ics aY hib Ab cb back aZ hia Aa ca ahead v3 v4 wr){oM:Nat}(h1:top<=oM)(h2:oM<=wr.heap.size):RB w m fs lp oM lo1 hi1 As s vi ni ics aY hib Ab cb back aZ hia Aa ca ahead v3 v4 wr:=by obtain⟨b0,b1,b2,b3,b4,b5,b6,b7⟩:=h.bnd;exact⟨h.rs,h.set,h.inn,h.fb,h.fa,by omega,b1,by omega,b3,by omega,b5,by omega,h2⟩
theorem RB.push (h:RB w m fs lp top lo1 hi1 As s vi ni ics aY hib Ab cb back aZ hia Aa ca ahead v3 v4 wr)(hmw:m<w.heap.size){base n sz:Nat}{e:TypeId}{u:Value}{xs:List Value}(ho:wr.ownsRow base e sz u n xs)(hb:top<=base)(h1:kw≠e)(h2:bJ≠e)(h3:tRow≠e)(hg:wr.grownBy w2 u.ownBlock):RB w m fs lp top lo1 hi1 As s vi ni ics aY hib Ab cb back aZ hia Aa ca ahead v3 v4 w2:=by
 obtain⟨b0,b1,b2,b3,b4,b5,b6,b7⟩:=h.bnd;have hz:=hg.size;have hz0:=h.rs.mv.size;have hb0:w.heap.size<=base:=by omega
 exact⟨h.rs.push hmw ho hb0 h1 h2 hg,Frz.push aeQ.ok h.set ho (by omega) hg,(Sp.push (m:=m) ho (by omega) hg).own h.inn h3,Frz.push aeR.ok h.fb ho (by omega) hg,Frz.push aeR.ok h.fa ho (by omega) hg,b0,b1,b2,b3,b4,b5,b6,by omega⟩
theorem RB.afD (h:RB w m fs lp top lo1 hi1 As s vi ni ics aY hib Ab cb back aZ hia Aa ca ahead v3 v4 wr)(hmw:m<w.heap.size)(u:Value):RB w m fs lp top lo1 hi1 As s vi ni ics aY hib Ab cb back aZ hia Aa ca ahead u v4 (wr.setCell ⟨w.heap.size+1,3,none⟩ u):=by obtain⟨b0,b1,b2,b3,b4,b5,b6,b7⟩:=h.bnd;exact⟨h.rs.put hmw 3 u,Frz.put aeQ.ok h.set (.inl (by omega)) 3 u,(Sp.set (m:=m) h.rs.var (by omega) 3 u).own h.inn (by decide),Frz.put aeR.ok h.fb (.inl (by omega)) 3 u,Frz.put aeR.ok h.fa (.inl (by omega)) 3 u,b0,b1,b2,b3,b4,b5,b6,by simpa using b7⟩
theorem RB.aga (h:RB w m fs lp top lo1 hi1 As s vi ni ics aY hib Ab cb back aZ hia Aa ca ahead v3 v4 wr)(hmw:m<w.heap.size)(u:Value):RB w m fs lp top lo1 hi1 As s vi ni ics aY hib Ab cb back aZ hia Aa ca ahead v3 u (wr.setCell ⟨w.heap.size+1,4,none⟩ u):=by obtain⟨b0,b1,b2,b3,b4,b5,b6,b7⟩:=h.bnd;exact⟨h.rs.put hmw 4 u,Frz.put aeQ.ok h.set (.inl (by omega)) 4 u,(Sp.set (m:=m) h.rs.var (by omega) 4 u).own h.inn (by decide),Frz.put aeR.ok h.fb (.inl (by omega)) 4 u,Frz.put aeR.ok h.fa (.inl (by omega)) 4 u,b0,b1,b2,b3,b4,b5,b6,by simpa using b7⟩
theorem RB.more (h:RB w m fs lp top lo1 hi1 As s vi ni ics aY hib Ab cb back aZ hia Aa ca ahead v3 v4 wr)(hmw:m<w.heap.size){e t:TypeId}{size:Nat}(E:ElT e t size)(h1:kw≠e)(h2:bJ≠e)(h3:tRow≠e){j n c:Nat}{A:Option Addr}{xs:List Value}{base:Nat}(hb:top<=base)(hbz:base<=wr.heap.size)
  (hv:(#[Value.slice Ab back.length cb,vi,.slice Aa ahead.length ca,v3,v4,.int .i64 0]:Array Value)[j]? =some (.slice A n c)) (ho:wr.ownsRow base e size (.slice A n c) n xs) (news:Array Value) (hnl:news.size=size) (hone:∀u∈news.toList,u.oneCell'=true) (hn:n<=1000):
  ∃A5 c5 w9,(Builtin.append_ #[t,t] t #[.slice A n c,.slice (some ⟨wr.heap.size,0,none⟩) 1 1]).run Tryd.prog (wr.alloc (.cells news e))= .ok (.slice A5 (n+1) c5) w9/\
   w9.cell? ⟨w.heap.size+1,j,none⟩=some (.slice A n c)/\w9.frozen? ⟨w.heap.size+1,j,none⟩=false/\w9.ownsRow base e size (.slice A5 (n+1) c5) (n+1) (xs++news.toList)/\RB w m fs lp top lo1 hi1 As s vi ni ics aY hib Ab cb back aZ hia Aa ca ahead v3 v4 w9:=by
 obtain⟨A5,c5,w9,hrun,dG,dA,rE⟩:=bQ E t wr base n c A xs news hnl ho hone (by omega) hbz;have h9:=h.push hmw ho hb h1 h2 h3 dA;exact⟨A5,c5,w9,hrun,by rw[h9.rs.cell,hv],h9.rs.var.frozen j,dG,h9⟩
end
theorem SY:(Tryd.prog.info? bJ).map (·.size)=some 6:=by kernel_rfl
theorem dE {W:World}{g:Nat}{cs:Array Value}{tmps:Array Value}(hb:Bk W g bJ cs)(hsz:cs.size=6)(h2:tmps.getD 6 undef= .pointer (some ⟨g,0,none⟩)):(results Tryd.f64 tmps).run Tryd.prog W= .ok (.agg cs) W:=by rw[kH (fn:=Tryd.f64) (p:=6) (ty:=bJ) rfl,h2];have:=run_loadVar_row (P:=Tryd.prog) W g bJ bJ cs (0,0) _ hb Tryd.underlying78 rfl (by rw[SY,hsz]);simp[asAddr,Result.andThen,this]
end
section
abbrev Oj (lo hi:Nat)(w w':World):Prop:=∀b,lo<=b->b<hi->w'.heap[b]? =w.heap[b]?
structure Fzn (lo hi:Nat)(P:World->Prop)(w:World):Prop where
 now:P w
 keep:∀w w',P w->Oj lo hi w w'->P w'
 top:hi<=w.heap.size
section
variable {lo hi:Nat} {P Q:World->Prop} {w w':World} {m:Nat}
theorem Fzn.step (h:Fzn lo hi P w)(hz:w.heap.size<=w'.heap.size)(he:Oj lo hi w w'):Fzn lo hi P w':=⟨h.keep _ _ h.now he,h.keep,nt h.top hz⟩
theorem Fzn.row {row:Option Nat}(h:Fzn lo hi P w)(hg:w.grownBy w' row)(hr:∀x,row=some x->x<lo\/hi<=x):Fzn lo hi P w':=h.step hg.size fun b h1 h2=>hg.block b (by have:=h.top;omega) (fun e=>by have:=hr b e.symm;omega)
theorem Fzn.next (h:Fzn lo hi P w)(hm:m<lo)(hv:Mv m w w'):Fzn lo hi P w':=h.row hv (fun x hx=>by injection hx with hx;exact .inl (by omega))
theorem Fzn.below (h:Fzn lo hi P w)(hb:Below w.heap.size w w'):Fzn lo hi P w':=h.row (dm hb none) (fun x hx=>by cases hx)
theorem Fzn.drew (h:Fzn lo hi P w):Fzn lo hi P w.drew:=h.below (agE _ _).drew
theorem Fzn.put (h:Fzn lo hi P w){g:Nat}(hg:g<lo\/hi<=g)(j:Nat)(u:Value):Fzn lo hi P (w.setCell ⟨g,j,none⟩ u):=h.row (bU (World.grownBy.refl w (some g)) (.inl rfl) u) (fun x hx=>by injection hx with hx;rw[<-hx];exact hg)
theorem Fzn.push {base n s:Nat}{e:TypeId}{v:Value}{ys:List Value}(h:Fzn lo hi P w)(ho:w.ownsRow base e s v n ys)(hb:hi<=base)(hg:w.grownBy w' v.ownBlock):Fzn lo hi P w':=h.row hg (fun x hx=> .inr (nt hb (ho.lt x hx).1))
theorem Fzn.wide (h:Fzn lo hi P w){lo2 hi2:Nat}(h1:lo2<=lo)(h2:hi<=hi2)(h3:hi2<=w.heap.size):Fzn lo2 hi2 P w:=⟨h.now,fun a b ha he=>h.keep a b ha (fun x h4 h5=>he x (by omega) (by omega)),h3⟩
theorem Fzn.and (h:Fzn lo hi P w)(k:Fzn lo hi Q w):Fzn lo hi (fun w=>P w/\Q w) w:=⟨⟨h.now,k.now⟩,fun a b ha he=>⟨h.keep a b ha.1 he,k.keep a b ha.2 he⟩,h.top⟩
theorem Fzn.true (h:hi<=w.heap.size):Fzn lo hi (fun _=>True) w:=⟨trivial,fun _ _ _ _=>trivial,h⟩
theorem Fzn.map (h:Fzn lo hi P w)(hm:∀w,P w->Q w)(hk:∀w w',Q w->Oj lo hi w w'->Q w'):Fzn lo hi Q w:=⟨hm w h.now,hk,h.top⟩
theorem TR.eqb {ts:List TypeId}(he:Oj lo hi w w'):Same (TR ts lo hi w) w w'/\∀b,TR ts lo hi w b->TR ts lo hi w' b:=by
 have key:∀b,TR ts lo hi w b->w'.heap[b]? =w.heap[b]? :=fun b hb=>he b hb.1.1 hb.1.2
 exact⟨key,fun b hb=>by
  obtain⟨h1,cs,t,hk,ht⟩:=hb;exact⟨h1,cs,t,(key b ⟨h1,cs,t,hk,ht⟩).trans hk,ht⟩⟩
variable {α:Type} {R:Rel α} {size:Nat} {ts:List TypeId} {A:Option Addr} {xs:List α} {cs:List Value}
theorem Fzn.sl (ok:R.Ok)(h:Sl R size w (TR ts lo hi w) A xs)(ht:hi<=w.heap.size):Fzn lo hi (fun w=>Sl R size w (TR ts lo hi w) A xs) w:=⟨h,fun _ _ ha he=>ha.moved ok (TR.eqb he),ht⟩
theorem Fzn.fl (ok:R.Ok)(h:Fl R size w (TR ts lo hi w) cs xs)(ht:hi<=w.heap.size):Fzn lo hi (fun w=>Fl R size w (TR ts lo hi w) cs xs) w:=⟨h,fun _ _ ha he=>ha.moved ok (TR.eqb he),ht⟩
theorem TR.sub {ts':List TypeId}{lo' hi':Nat}(h:∀t∈ts,t∈ts')(h1:lo'<=lo)(h2:hi<=hi'):∀b,TR ts lo hi w b->TR ts' lo' hi' w b:=fun b ⟨⟨h3,h4⟩,cs,t,h5,h6⟩=>⟨⟨by omega,by omega⟩,cs,t,h5,h t h6⟩
theorem TR.lw:∀b,TR ts lo hi w b->b<w.heap.size:=fun b ⟨_,_,_,h,_⟩=>h.lt
theorem TR.afT {base:Nat}(h:lo<=base):∀b,TS ts base w b->TR ts lo w.heap.size w b:=fun b hb=>⟨⟨nt h hb.1,TS.lt b hb⟩,hb.2⟩
theorem uD {e:TypeId}{base n c:Nat}(h:w.ownsRow base e size (.slice A n c) n cs)(hf:Fl R size w (TR ts lo w.heap.size w) cs xs)(he:e∈ts)(hb:lo<=base)(hsz:0<size):Sl R size w (TR ts lo w.heap.size w) A xs:=
 Sl.afQ h hf (fun g hg=>by
  obtain⟨cur,hk⟩:=gW h g hg;exact⟨⟨by have:=(h.lt g hg).1;omega,hk.lt⟩,cur,e,hk,he⟩) hsz
end
structure Mv2 (m:Nat)(row:Option Nat)(w w':World):Prop where
 os:w'.os=w.os
 tape:w'.tape=w.tape
 output:w'.output=w.output
 size:w.heap.size<=w'.heap.size
 block:∀i,i<w.heap.size->i≠m->row≠some i->w'.heap[i]? =w.heap[i]?
section
variable {m:Nat} {row:Option Nat} {w w' w2:World}
theorem Mv.two (h:Mv m w w'):Mv2 m row w w':=⟨h.os,h.tape,h.output,h.size,fun i h1 h2 _=>h.block i h1 (fun e=>by injection e with e;exact h2 e)⟩
theorem Mv2.step {r:Option Nat}(h:Mv2 m row w w')(hg:w'.grownBy w2 r)(hr:∀x,r=some x->w.heap.size<=x\/x=m\/row=some x):Mv2 m row w w2:=
 ⟨hg.os.trans h.os,hg.tape.trans h.tape,hg.output.trans h.output,nt h.size hg.size,fun i h1 h2 h3=>(hg.block i (agN h1 h.size) (fun e=>by
  rcases hr i e.symm with h4|h4|h4
  ·omega
  ·exact h2 h4
  exact h3 h4)).trans (h.block i h1 h2 h3)⟩
theorem Mv2.fz {lo hi:Nat}{P:World->Prop}(h:Mv2 m row w w')(hm:m<lo)(hr:∀x,row=some x->hi<=x)(k:Fzn lo hi P w):Fzn lo hi P w':=k.step h.size fun b h1 h2=>h.block b (by have:=k.top;omega) (by omega) (fun e=>by have:=hr b e;omega)
end
end
end Go.Proofs.YtkijckccfookeaaDoor
