/- Lemmas. -/
import Derived.Test.YtkijckccfookeaaGreatDoorV27
set_option linter.unusedVariables false
set_option linter.unusedSimpArgs false
set_option maxRecDepth 100000
set_option maxHeartbeats 32000000
namespace Go.Proofs.YtkijckccfookeaaGreatDoor
open Go.RowKit
section
structure aiB (f:Fnt):Prop where
 unit:16<=f.unit/\f.unit<=4096
 ahO:aiZ f
 chars:f.chars.length<=1000/\∀c∈f.chars,(0<=c.rune/\c.rune<=1114111)/\In f.ahO.length c.ahU
 looks:(f.ahP.length<=40/\∀l∈f.ahP,ai6 f.ahO.length f.ahP.length l)/\f.features.length<=20/\∀x∈f.features,ai8 f.ahP.length x
 ahQ:(f.ahQ.length<=3/\∀a∈f.ahQ,Eo a)/\f.regions.length<=16/\∀r∈f.regions,KA f.ahQ.length r
 ajd:(f.funcs.length<=20/\∀p∈f.funcs,Si p)/\f.cvt.length<=64/\∀n∈f.cvt,N9 n
structure ajv (f:Fnt):Prop where
 ahO:Big f.ahO.length
 chars:Big f.chars.length
 ahP:Big f.ahP.length
 ahZ:Big f.features.length
 ahQ:Big f.ahQ.length
 regs:Big f.regions.length
 funcs:Big f.funcs.length
 cvt:Big f.cvt.length
 ahU:∀g∈f.ahO,ajI g
 look:∀l∈f.ahP,ajH l
 aki:∀x∈f.features,ajK x
 aje:∀a∈f.ahQ,Big a.name.length
 reg:∀r∈f.regions,Big r.ah4.length
 func:∀p∈f.funcs,Big p.length
theorem Xc (w:World)(f:Fnt)(A1 A2 A3 A4 A5 A6 A7 A8:Option Addr)(c1 c2 c3 c4 c5 c6 c7 c8:Nat)(hF:FIn ⟨A1,c1,A2,c2,A3,c3,A4,c4,A5,c5,A6,c6,A7,c7,A8,c8⟩ f w)(hB:ajv f):Calls Tryz.prog 36 #[.agg #[.int .i64 f.unit,.slice A1 f.ahO.length c1,.slice A2 f.chars.length c2,.slice A3 f.ahP.length c3,.slice A4 f.features.length c4,.slice A5 f.ahQ.length c5,.slice A6 f.regions.length c6,.slice A7 f.funcs.length c7,.slice A8 f.cvt.length c8]] w (Ed w (aiB f)):=by
 obtain⟨P,HP⟩:∃P:Prop,Hid (P=(aiB f)):=⟨_,rfl⟩
 rw[<-HP.out];obtain⟨Wf,hWf,hbf,bW⟩:=aQ w 32 #[.int .i64 f.unit,.slice A1 f.ahO.length c1,.slice A2 f.chars.length c2,.slice A3 f.ahP.length c3,.slice A4 f.features.length c4,.slice A5 f.ahQ.length c5,.slice A6 f.regions.length c6,.slice A7 f.funcs.length c7,.slice A8 f.cvt.length c8];have aZ:Hid (Below w.heap.size w Wf):=hd0 hbf;have lg:=hd0 bW;have kN:=hd0 (hF.below hbf);obtain⟨Wg,oH,hbg,hkg⟩:=aQ Wf 107 #[.int .i64 0,.int .i64 0];have dh:Hid (Below w.heap.size w Wg):=hd0 (aZ.out.trans (hbg.mono aZ.out.size));have ak:=hd0 hkg;have aH:Hid (Bk Wg w.heap.size 32 #[.int .i64 f.unit,.slice A1 f.ahO.length c1,.slice A2 f.chars.length c2,.slice A3 f.ahP.length c3,.slice A4 f.features.length c4,.slice A5 f.ahQ.length c5,.slice A6 f.regions.length c6,.slice A7 f.funcs.length c7,.slice A8 f.cvt.length c8]):=hd0 (Bk.bel bW hbg);have HF2:=hd0 (kN.out.below hbg);have hzg:=dh.out.size;have mQ:Hid (Below Wg.heap.size Wg Wg):=hd0 (akl _ _);have k0:=aH.out.cell 0;have k1:=aH.out.cell 1;have k2:=aH.out.cell 2;have k3:=aH.out.cell 3;have k4:=aH.out.cell 4;have k5:=aH.out.cell 5;have k6:=aH.out.cell 6;have k7:=aH.out.cell 7;have k8:=aH.out.cell 8;have g0:=hkg.cell 0;have g1:=hkg.cell 1;have z0:=hkg.frozen 0;have z1:=hkg.frozen 1;clear hF hbf bW hbg hkg kN;go_enter Tryz.func36,Tryz.ntmps36
 by_cases h1:f.unit<16
 ·have bh1:decide (f.unit<16)=true:=decide_eq_true h1;go_wp2_with fail
  exact aX rfl ak.out mQ.out aZ.out.size dh.out _ _ rfl (fun h=>absurd h (by decide))
 have bh1:decide (f.unit<16)=false:=decide_eq_false h1;by_cases h2:4096<f.unit
 ·have mf:decide (4096<f.unit)=true:=decide_eq_true h2;go_wp2_with fail
  exact aX rfl ak.out mQ.out aZ.out.size dh.out _ _ rfl (fun h=>absurd h (by decide))
 have mf:decide (4096<f.unit)=false:=decide_eq_false h2;have HO:=hd0 (PV Wg f A1 A2 A3 A4 A5 A6 A7 A8 c1 c2 c3 c4 c5 c6 c7 c8 HF2.out hB.ahO hB.regs hB.ahU);go_wp2_with fail
 try clear hWf
 try clear oH
 refine HO.out.mono ?_;rintro e w3 ⟨r3,a3,rfl,HP3,hb3⟩;clear HO;have zg:=ak.out.lt;have hz3:Wg.heap.size<=w3.heap.size:=hb3.size;have hne:¬Wf.heap.size=w3.heap.size:=by omega
 have hne2:¬w3.heap.size=Wf.heap.size:=by omega
 obtain⟨W4,hW4,hbx,HT4⟩:=aQ w3 107 #[.int .i64 r3,.int .i64 a3];have hq4:Below Wg.heap.size Wg W4:=hb3.trans (hbx.mono hb3.size);have HB4:Hid (Below Wg.heap.size Wg W4):=hd0 hq4;have E4:Hid (Below w.heap.size w W4):=hd0 (dh.out.trans (hq4.mono hzg))
 try clear k0 k1 k2 k3 k4 k5 k6 k7 k8
 clear g0 g1 z0 z1;obtain⟨k0,k1,k2,k3,k4,k5,k6,k7,k8⟩:=nine aH.out hq4;have g0:=ak.out.at hq4 0 rfl;have g1:=ak.out.at hq4 1 rfl;have z0:=(ak.out.bel hq4).frozen 0;have z1:=(ak.out.bel hq4).frozen 1;have p0:=HT4.cell 0;have p1:=HT4.cell 1;clear hbx hb3;by_cases hr:r3=0
 ·have K3:=hd0 (HP3 hr);clear HP3;subst hr;have HO:=hd0 (Su W4 f A1 A2 A3 A4 A5 A6 A7 A8 c1 c2 c3 c4 c5 c6 c7 c8 (HF2.out.below hq4) hB.ahO hB.chars);clear hq4;go_wp2_with fail
  try clear hW4
  refine HO.out.mono ?_;rintro e w5 ⟨r5,a5,rfl,tK,hb5⟩;clear HO p0 p1;have Bl:=HT4.bel hb5;have f0:=Bl.frozen 0;have f1:=Bl.frozen 1;have c0:=Bl.cell 0;have c1':=Bl.cell 1;obtain⟨W6,hW6⟩:∃W,(w5.setCell ⟨w3.heap.size,0,none⟩ (.int .i64 r5)).setCell ⟨w3.heap.size,1,none⟩ (.int .i64 a5)=W:=⟨_,rfl⟩
  have vS:Bk W6 w3.heap.size rX #[.int .i64 r5,.int .i64 a5]:=by rw[<-hW6];have:=(Bl.set 0 (.int .i64 r5)).set 1 (.int .i64 a5);simpa using this
  have hq6:Below Wg.heap.size Wg W6:=by rw[<-hW6];exact((HB4.out.trans (hb5.mono HB4.out.size)).setCell hz3 _).setCell hz3 _
  have gY:Hid (Below Wg.heap.size Wg W6):=hd0 hq6;have E6:Hid (Below w.heap.size w W6):=hd0 (dh.out.trans (hq6.mono hzg))
  try clear k0 k1 k2 k3 k4 k5 k6 k7 k8
  clear g0 g1 z0 z1;obtain⟨k0,k1,k2,k3,k4,k5,k6,k7,k8⟩:=nine aH.out hq6;have g0:=ak.out.at hq6 0 rfl;have g1:=ak.out.at hq6 1 rfl;have z0:=(ak.out.bel hq6).frozen 0;have z1:=(ak.out.bel hq6).frozen 1;have p0:=vS.cell 0;have p1:=vS.cell 1;clear HT4 Bl hb5;by_cases hr:r5=0
  ·have K5:=hd0 (tK hr);clear tK;subst hr;have HO:=hd0 (UG W6 f A1 A2 A3 A4 A5 A6 A7 A8 c1 c2 c3 c4 c5 c6 c7 c8 (HF2.out.below hq6) hB.ahO hB.ahP hB.ahZ hB.look hB.aki);clear hq6;go_wp2_with fail
   try clear hW6
   refine HO.out.mono ?_;rintro e w7 ⟨r7,a7,rfl,JI,hb7⟩;clear HO p0 p1;have sQ:=vS.bel hb7;have f0:=sQ.frozen 0;have f1:=sQ.frozen 1;have c0:=sQ.cell 0;have c1':=sQ.cell 1;obtain⟨W8,hW8⟩:∃W,(w7.setCell ⟨w3.heap.size,0,none⟩ (.int .i64 r7)).setCell ⟨w3.heap.size,1,none⟩ (.int .i64 a7)=W:=⟨_,rfl⟩
   have Dc:Bk W8 w3.heap.size rX #[.int .i64 r7,.int .i64 a7]:=by rw[<-hW8];have:=(sQ.set 0 (.int .i64 r7)).set 1 (.int .i64 a7);simpa using this
   have hq8:Below Wg.heap.size Wg W8:=by rw[<-hW8];exact((gY.out.trans (hb7.mono gY.out.size)).setCell hz3 _).setCell hz3 _
   have lD:Hid (Below Wg.heap.size Wg W8):=hd0 hq8;have E8:Hid (Below w.heap.size w W8):=hd0 (dh.out.trans (hq8.mono hzg))
   try clear k0 k1 k2 k3 k4 k5 k6 k7 k8
   clear g0 g1 z0 z1;obtain⟨k0,k1,k2,k3,k4,k5,k6,k7,k8⟩:=nine aH.out hq8;have g0:=ak.out.at hq8 0 rfl;have g1:=ak.out.at hq8 1 rfl;have z0:=(ak.out.bel hq8).frozen 0;have z1:=(ak.out.bel hq8).frozen 1;have p0:=Dc.cell 0;have p1:=Dc.cell 1;clear vS sQ hb7;by_cases hr:r7=0
   ·have K7:=hd0 (JI hr);clear JI;subst hr;have HO:=hd0 (Xi W8 f A1 A2 A3 A4 A5 A6 A7 A8 c1 c2 c3 c4 c5 c6 c7 c8 (HF2.out.below hq8) hB.ahQ hB.regs hB.aje hB.reg);clear hq8;go_wp2_with fail
    try clear hW8
    refine HO.out.mono ?_;rintro e w9 ⟨r9,a9,rfl,Du,aY⟩;clear HO p0 p1;have Pq:=Dc.bel aY;have f0:=Pq.frozen 0;have f1:=Pq.frozen 1;have c0:=Pq.cell 0;have c1':=Pq.cell 1;obtain⟨lZ,XU⟩:∃W,(w9.setCell ⟨w3.heap.size,0,none⟩ (.int .i64 r9)).setCell ⟨w3.heap.size,1,none⟩ (.int .i64 a9)=W:=⟨_,rfl⟩
    have RN:Bk lZ w3.heap.size rX #[.int .i64 r9,.int .i64 a9]:=by rw[<-XU];have:=(Pq.set 0 (.int .i64 r9)).set 1 (.int .i64 a9);simpa using this
    have hq10:Below Wg.heap.size Wg lZ:=by rw[<-XU];exact((lD.out.trans (aY.mono lD.out.size)).setCell hz3 _).setCell hz3 _
    have vY:Hid (Below Wg.heap.size Wg lZ):=hd0 hq10;have E10:Hid (Below w.heap.size w lZ):=hd0 (dh.out.trans (hq10.mono hzg))
    try clear k0 k1 k2 k3 k4 k5 k6 k7 k8
    clear g0 g1 z0 z1;obtain⟨k0,k1,k2,k3,k4,k5,k6,k7,k8⟩:=nine aH.out hq10;have g0:=ak.out.at hq10 0 rfl;have g1:=ak.out.at hq10 1 rfl;have z0:=(ak.out.bel hq10).frozen 0;have z1:=(ak.out.bel hq10).frozen 1;have p0:=RN.cell 0;have p1:=RN.cell 1;clear Dc Pq aY;by_cases hr:r9=0
    ·have K9:=hd0 (Du hr);clear Du;subst hr;have HO:=hd0 (Vh lZ f A1 A2 A3 A4 A5 A6 A7 A8 c1 c2 c3 c4 c5 c6 c7 c8 (HF2.out.below hq10) hB.funcs hB.cvt hB.func);clear hq10;go_wp2_with fail
     try clear XU
     refine HO.out.mono ?_;rintro e fK ⟨r11,a11,rfl,GZ,gy⟩;clear HO p0 p1;have vZ:=RN.bel gy;have f0:=vZ.frozen 0;have f1:=vZ.frozen 1;have c0:=vZ.cell 0;have c1':=vZ.cell 1;obtain⟨kR,Ah⟩:∃W,(fK.setCell ⟨w3.heap.size,0,none⟩ (.int .i64 r11)).setCell ⟨w3.heap.size,1,none⟩ (.int .i64 a11)=W:=⟨_,rfl⟩
     have DV:Bk kR w3.heap.size rX #[.int .i64 r11,.int .i64 a11]:=by rw[<-Ah];have:=(vZ.set 0 (.int .i64 r11)).set 1 (.int .i64 a11);simpa using this
     have hq12:Below Wg.heap.size Wg kR:=by rw[<-Ah];exact((vY.out.trans (gy.mono vY.out.size)).setCell hz3 _).setCell hz3 _
     have nN:Hid (Below Wg.heap.size Wg kR):=hd0 hq12;have YJ:Hid (Below w.heap.size w kR):=hd0 (dh.out.trans (hq12.mono hzg))
     try clear k0 k1 k2 k3 k4 k5 k6 k7 k8
     clear g0 g1 z0 z1;obtain⟨k0,k1,k2,k3,k4,k5,k6,k7,k8⟩:=nine aH.out hq12;have g0:=ak.out.at hq12 0 rfl;have g1:=ak.out.at hq12 1 rfl;have z0:=(ak.out.bel hq12).frozen 0;have z1:=(ak.out.bel hq12).frozen 1;have p0:=DV.cell 0;have p1:=DV.cell 1;clear RN vZ gy;by_cases hr:r11=0
     ·have K11:=hd0 (GZ hr);clear GZ;subst hr;have hg:P:=HP.out.mpr ⟨⟨by omega,by omega⟩,K3.out,K5.out,K7.out,K9.out,K11.out⟩;clear hq12;go_wp2_with fail
      exact aX rfl ak.out nN.out aZ.out.size YJ.out _ _ rfl (fun _=>hg)
     have MO:(r11==0)=false:=eH hr;clear GZ hq12;go_wp2_with fail
     exact aX rfl ak.out nN.out aZ.out.size YJ.out _ _ rfl (fun h=>absurd h hr)
    have MO:(r9==0)=false:=eH hr;clear Du hq10;go_wp2_with fail
    exact aX rfl ak.out vY.out aZ.out.size E10.out _ _ rfl (fun h=>absurd h hr)
   have MO:(r7==0)=false:=eH hr;clear JI hq8;go_wp2_with fail
   exact aX rfl ak.out lD.out aZ.out.size E8.out _ _ rfl (fun h=>absurd h hr)
  have MO:(r5==0)=false:=eH hr;clear tK hq6;go_wp2_with fail
  exact aX rfl ak.out gY.out aZ.out.size E6.out _ _ rfl (fun h=>absurd h hr)
 have MO:(r3==0)=false:=eH hr;clear HP3 hq4;go_wp2_with fail
 exact aX rfl ak.out HB4.out aZ.out.size E4.out _ _ rfl (fun h=>absurd h hr)
theorem ajp.right {n m:Nat}{kd:Int}{r:aii}(h:ajc n m kd r)(hk:1<=kd/\kd<=8)(h6:kd<=6)(hm:m<=40):OkR n kd r where
 back:=fun s hs=>h.sets s (by simp[hs])
 in':=fun s hs=>h.sets s (by simp[hs])
 ahead:=fun s hs=>h.sets s (by simp[hs])
 out:=h.outs.out
 calls:=fun c hc=>by
  obtain⟨⟨a1,a2⟩,a3,a4⟩:=h.outs.calls c hc;have:=h.shape.1.2.1;exact⟨by unfold N9;omega,by unfold N9;omega⟩
 x:=h.outs.x
 one:=fun hk1=>by
  have h1:=h.shape.2.2 hk1;obtain⟨s,hs⟩:=List.length_eq_one_iff.1 h1;exact⟨s,hs,h.outs.w.1 hk1 s (by rw[hs];rfl)⟩
 outs:=fun hk4=>h.outs.w.2.2.2 (by omega) (by omega) (by omega) (by omega)
 noC:=fun h4=>Decidable.byContradiction fun hc=>h4 (h.outs.noC hc)
 noX:=fun h6=>Decidable.byContradiction fun hc=>h6 (h.outs.noX hc)
theorem aiB.right {f:Fnt}(h:aiB f):aiV f where
 unit:=by have:=h.unit;unfold N9;omega
 ahQ:=h.ahQ.1.2
 regs:=fun r hr t ht=>by
  obtain⟨a1,a2,a3,a4⟩:=(h.ahQ.2.2 r hr).2 t ht;exact⟨by unfold N9;omega,by unfold N9;omega,by unfold N9;omega⟩
 cvt:=h.ajd.2.2
 funcs:=fun p hp=>(h.ajd.1.2 p hp).2
 apart:=h.ahO.apart.nodup
 ahO:=fun g hg=>by
  have k:=h.ahO.each g hg;have hr:=h.ahQ.2.1;refine⟨k.name,k.adv,k.pts.2,k.ends.2,k.parts.2,k.anch.2,fun d hd=> ?_,k.hint.2⟩;obtain⟨⟨a1,a2⟩,⟨a3,a4⟩,a5,a6⟩:=k.aid.2 d hd;have:=k.pts.1;exact⟨by unfold N9;omega,by unfold N9;omega,a5,a6⟩
 chars:=fun c hc=>by
  obtain⟨⟨a1,a2⟩,a3⟩:=h.chars.2 c hc;exact⟨by unfold N9;omega,a3⟩
 ahP:=fun l hl=>by
  have k:=h.looks.1.2 l hl;refine⟨k.kind.1,k.kind.2,fun r hr=>ajp.right (k.rules r hr) k.kind (k.none (fun e=>by rw[e] at hr;simp at hr)) h.looks.1.1⟩
 ahZ:=fun x hx=>by
  have k:=h.looks.2.2 x hx;refine⟨k.name,fun n hn=> ?_⟩;obtain⟨a1,a2⟩:=k.ahP n hn;have:=h.looks.1.1;unfold N9;omega
 few:=by have:=h.ahO.few;omega
theorem Vz (w:World)(f:Fnt)(A1 A2 A3 A4 A5 A6 A7 A8:Option Addr)(c1 c2 c3 c4 c5 c6 c7 c8:Nat)(hF:FIn ⟨A1,c1,A2,c2,A3,c3,A4,c4,A5,c5,A6,c6,A7,c7,A8,c8⟩ f w)(hB:ajv f):Calls Tryz.prog 17 #[.agg #[.int .i64 f.unit,.slice A1 f.ahO.length c1,.slice A2 f.chars.length c2,.slice A3 f.ahP.length c3,.slice A4 f.features.length c4,.slice A5 f.ahQ.length c5,.slice A6 f.regions.length c6,.slice A7 f.funcs.length c7,.slice A8 f.cvt.length c8]] w (OkB w (aiB f)):=by
 obtain⟨P,HP⟩:∃P:Prop,Hid (P=(aiB f)):=⟨_,rfl⟩
 rw[<-HP.out];obtain⟨Wf,hWf,hbf,bW⟩:=aQ w 32 #[.int .i64 f.unit,.slice A1 f.ahO.length c1,.slice A2 f.chars.length c2,.slice A3 f.ahP.length c3,.slice A4 f.features.length c4,.slice A5 f.ahQ.length c5,.slice A6 f.regions.length c6,.slice A7 f.funcs.length c7,.slice A8 f.cvt.length c8];have aZ:Hid (Below w.heap.size w Wf):=hd0 hbf;have lg:=hd0 bW;have hF1:=hF.below hbf;have HO:=hd0 (Xc Wf f A1 A2 A3 A4 A5 A6 A7 A8 c1 c2 c3 c4 c5 c6 c7 c8 hF1 hB);obtain⟨k0,k1,k2,k3,k4,k5,k6,k7,k8⟩:=nine bW (akl _ _);clear hF hF1 hbf bW;go_enter Tryz.func17,Tryz.ntmps17
 go_wp2_with fail
 try clear hWf
 refine HO.out.mono ?_;rintro e w3 ⟨r,a,rfl,hr,hb3⟩;have HR:Hid ((r==0)=true->aiB f):=hd0 fun h=>hr (by simpa using h)
 have E3:Hid (Below w.heap.size w w3):=hd0 (aZ.out.trans (hb3.mono aZ.out.size));clear HO hr hb3;have hfd:(Instr.field 107 (.agg #[.int .i64 r,.int .i64 a]) 0).run Tryz.prog w3= .ok (.int .i64 r) w3:=by
  first
   |(simp[Instr.field,partOf,sizeOf,Tryz.underlying107];done)
   |rfl
   |(unfold Instr.field;simp;rfl)
 go_wp2_with fail
 try go_ret
 exact⟨_,rfl,fun h=>HP.out.mpr (HR.out h),E3.out⟩
theorem ahS.ajt {w w':World}{Bd p gm cm:Nat}{gl:Gl}{K:Nat}{r:Ans}{e:Ending}(h:ahS w.drew Bd p gm cm gl K r e w'):ahS w Bd p gm cm gl K r e w':=by
 obtain⟨h1,h2⟩:=h;refine⟨⟨h1.os,h1.tape,h1.output,h1.size,h1.block⟩,?_⟩;cases r with
 |ok s=>exact⟨h2.1,⟨h2.2.1.same,h2.2.1.size⟩,h2.2.2⟩
 |error e=>exact h2
theorem ahS.ret {w w':World}{Bd p gm cm:Nat}{gl:Gl}{K:Nat}{r:Ans}{e:Ending}(h:ahS w Bd p gm cm gl K r e w'):∃v:Int,e= .returned (.int .i64 v):=by
 obtain⟨h1,h2⟩:=h;cases r with
 |ok s=>exact⟨0,h2.1⟩
 |error e=>exact⟨e,h2⟩
theorem oN (F:Nat)(hE:∀(args:Array Value) (w:World),(callFunc F args).run Tryz.prog w= .ok (.enter F args) w)(w:World)(Bd p gm cm:Nat)(gl:Gl)(s:PS)(rv:Rows)(K K2:Nat)(A:Option Addr)(n c c1 c2:Nat)(r:Ans)
  (hP:PSt w Bd p gm cm gl s rv K) (k1:w.cell? ⟨c1,0,none⟩=some (.pointer (some ⟨p,0,none⟩))) (k2:w.cell? ⟨c2,0,none⟩=some (.func (.func F) #[.pointer (some ⟨p,0,none⟩)] #[])) (h0:s.f.ahO=[]->r= .error 22)
  (h1:∀init g,s.f.ahO=init++[g]->∀G n0 c9,(rv 0).v= .slice (some ⟨G,0,none⟩) n0 c9->Calls Tryz.prog F #[.pointer (some ⟨p,0,none⟩),.slice A n c,.pointer (some ⟨G,init.length*9,none⟩)] w.drew (ahS w.drew Bd p gm cm gl K2 r)) (hK:K<=10000000000):
  Calls Tryz.prog 129 #[.slice A n c,.pointer (some ⟨c1,0,none⟩),.pointer (some ⟨c2,0,none⟩)] w (ahS w Bd p gm cm gl K2 r):=by
 have hfew:=hP.few 0 (by decide);have kp:w.cell? ⟨p,1,none⟩=some (rv 0).v:=hP.par.cell 1;have hlen:=hP.fnt.gly.1;rcases List.eq_nil_or_concat s.f.ahO with hg|⟨init,g,hg⟩
 ·obtain⟨A0,c0,hv⟩:=hP.slice (i:=0) (by decide);rw[hg] at hlen;rw[hv,hlen] at kp;have HR:=hd0 (h0 hg);have HB:=hd0 hP.size;clear hP h0 h1 hg hlen hfew;go_enter Tryz.func129,Tryz.ntmps129
  go_wp2_with fail
  go_ret
  exact ahS.bad HR.out (akl _ _)
 rw[List.concat_eq_append] at hg;obtain⟨G,c0,ci,e1,-,-,hGb,-⟩:=hP.aiz hg;have hc:=hd0 (h1 init g hg _ _ _ e1);rw[e1] at kp;rw[hg] at hlen;have hi:init.length+1<=10000000000:=by rw[la] at hlen;simp only[aF,ln] at hlen;omega
 clear hP h0 h1 hg hlen hfew;go_enter Tryz.func129,Tryz.ntmps129
 go_wp2_with fail
 go_region_with (refine hc.out.mono ?_;rintro e w2 hpost;obtain⟨ev,rfl⟩:=hpost.ret;have HP2:=hd0 hpost;clear hpost)
 all_goals
  go_wp2;go_ret
  exact HP2.out.ajt
theorem MR (F:Nat)(hE:∀(args:Array Value) (w:World),(callFunc F args).run Tryz.prog w= .ok (.enter F args) w)(w:World)(Bd p gm cm:Nat)(gl:Gl)(s:PS)(rv:Rows)(K K2:Nat)(A:Option Addr)(n c c1 c2:Nat)(r:Ans)
  (hP:PSt w Bd p gm cm gl s rv K) (k1:w.cell? ⟨c1,0,none⟩=some (.pointer (some ⟨p,0,none⟩))) (k2:w.cell? ⟨c2,0,none⟩=some (.func (.func F) #[.pointer (some ⟨p,0,none⟩)] #[])) (h0:s.f.ahP=[]->r= .error 22)
  (h1:∀init g,s.f.ahP=init++[g]->∀G n0 c9,(rv 2).v= .slice (some ⟨G,0,none⟩) n0 c9->Calls Tryz.prog F #[.pointer (some ⟨p,0,none⟩),.slice A n c,.pointer (some ⟨G,init.length*3,none⟩)] w.drew (ahS w.drew Bd p gm cm gl K2 r)) (hK:K<=10000000000):
  Calls Tryz.prog 133 #[.slice A n c,.pointer (some ⟨c1,0,none⟩),.pointer (some ⟨c2,0,none⟩)] w (ahS w Bd p gm cm gl K2 r):=by
 have hfew:=hP.few 2 (by decide);have kp:w.cell? ⟨p,3,none⟩=some (rv 2).v:=hP.par.cell 3;have hlen:=hP.fnt.lks.1;rcases List.eq_nil_or_concat s.f.ahP with hg|⟨init,g,hg⟩
 ·obtain⟨A0,c0,hv⟩:=hP.slice (i:=2) (by decide);rw[hg] at hlen;rw[hv,hlen] at kp;have HR:=hd0 (h0 hg);have HB:=hd0 hP.size;clear hP h0 h1 hg hlen hfew;go_enter Tryz.func133,Tryz.ntmps133
  go_wp2_with fail
  go_ret
  exact ahS.bad HR.out (akl _ _)
 rw[List.concat_eq_append] at hg;obtain⟨G,c0,ci,e1,-,-,hGb,-⟩:=hP.ai5 hg;have hc:=hd0 (h1 init g hg _ _ _ e1);rw[e1] at kp;rw[hg] at hlen;have hi:init.length+1<=10000000000:=by rw[la] at hlen;simp only[aF,ln] at hlen;omega
 clear hP h0 h1 hg hlen hfew;go_enter Tryz.func133,Tryz.ntmps133
 go_wp2_with fail
 go_region_with (refine hc.out.mono ?_;rintro e w2 hpost;obtain⟨ev,rfl⟩:=hpost.ret;have HP2:=hd0 hpost;clear hpost)
 all_goals
  go_wp2;go_ret
  exact HP2.out.ajt
attribute [-go_sem] Builtin.append_
theorem goT (op:Bool)(row:List P3)(told:List (List P3))(ws:List P3):dQ op (af row) (told.map af) (af ws)=(df op row told ws).map (List.map af):=by
 induction ws generalizing op row told with
 |nil=>show dQ op (af row) (told.map af) []=_;rw[dQ,df];cases op<;>rfl
 |cons w r ih=>
  show dQ op (af row) (told.map af) (w.2.2::af r)=_;rw[dQ,df];by_cases h1:w.2.2=[91]
  ·rw[if_pos h1,if_pos h1];cases op
   ·exact ih true [] told
   rfl
  rw[if_neg h1,if_neg h1];by_cases h2:w.2.2=[93]
  ·rw[if_pos h2,if_pos h2];cases op
   ·rfl
   have:=ih false [] (told++[row]);rw[akY] at this;exact this
  rw[if_neg h2,if_neg h2];cases op
  ·have:=ih false [] (told++[[w]]);rw[akY] at this;exact this
  have:=ih true (row++[w]) told;rw[show af (row++[w])=af row++[w.2.2] by simp[af]] at this;exact this
theorem lT (ws:List P3):eG (af ws)=(iU ws).map (List.map af):=goT false [] [] ws
theorem TM (op:Bool)(row:List P3)(told:List (List P3))(ws:List P3)(rows:List (List P3))(h:df op row told ws=some rows):rows.length<=told.length+ws.length/\∀r∈rows,r∈told\/r.length<=row.length+ws.length:=by
 induction ws generalizing op row told with
 |nil=>
  rw[df] at h;cases op
  ·cases h;exact⟨by simp,fun r hr=> .inl hr⟩
  cases h
 |cons w r ih=>
  rw[df] at h;by_cases h1:w.2.2=[91]
  ·rw[if_pos h1] at h;cases op
   ·obtain⟨g1,g2⟩:=ih true [] told h;refine⟨by simp only[aF];omega,fun x hx=>(g2 x hx).imp id fun g=> ?_⟩;simp only[aF,ln] at g ⊢;omega
   cases h
  rw[if_neg h1] at h;by_cases h2:w.2.2=[93]
  ·rw[if_pos h2] at h;cases op
   ·cases h
   obtain⟨g1,g2⟩:=ih false [] (told++[row]) h;refine⟨by simp only[aF,la,ln] at g1 ⊢;omega,fun x hx=> ?_⟩;rcases g2 x hx with g|g
   ·rcases akq.1 g with g|g
    ·exact .inl g
    simp only[akm] at g;subst g;exact .inr (by omega)
   exact .inr (by simp only[aF,ln] at g ⊢;omega)
  rw[if_neg h2] at h;cases op
  ·obtain⟨g1,g2⟩:=ih false [] (told++[[w]]) h;refine⟨by simp only[aF,la,ln] at g1 ⊢;omega,fun x hx=> ?_⟩;rcases g2 x hx with g|g
   ·rcases akq.1 g with g|g
    ·exact .inl g
    simp only[akm] at g;subst g;exact .inr (by simp only[aF,ln];omega)
   exact .inr (by simp only[aF,ln] at g ⊢;omega)
  obtain⟨g1,g2⟩:=ih true (row++[w]) told h;refine⟨by simp only[aF];omega,fun x hx=>(g2 x hx).imp id fun g=> ?_⟩;simp only[aF,la,ln] at g ⊢;omega
theorem uk {ws:List P3}{rows:List (List P3)}(h:iU ws=some rows):rows.length<=ws.length/\∀r∈rows,r.length<=ws.length:=by obtain⟨h1,h2⟩:=TM _ _ _ _ _ h;exact⟨by simpa using h1,fun r hr=>(h2 r hr).elim (fun g=>by simp at g) (fun g=>by simpa using g)⟩
theorem ED (gl:Gl)(cls:List (B×List Int))(er:Int)(he:er≠0)(acc:List Int)(l:List B):(aT gl cls er acc l).1=er:=by
 cases l with
 |nil=>rfl
 |cons t r=>
  have h:(ik gl cls er acc t).1=er:=by
   unfold ik;split
   ·split
    ·rfl
    show eC er 23=er;unfold eC;rw[if_neg he]
   show jB gl er t=er;unfold jB;rw[if_neg (by intro h;exact he h.1)]
  rw[aT,if_pos (by rw[h];exact he)];exact h
theorem abD (gl:Gl)(cls:List (B×List Int))(acc:List Int)(t:B):(∃e,mr gl cls t= .error e/\e≠0/\(ik gl cls 0 acc t).1=e)\/(∃c,mr gl cls t= .ok c/\ik gl cls 0 acc t=(0,acc++c)):=by
 unfold ik;rcases KT t with⟨r,h1,h2,h3⟩|⟨h1,h2,h3⟩
 ·rw[h3,h2];subst h1;show(∃e,mr gl cls (64::r)=_/\_)\/_;have hs:mr gl cls (64::r)=match cls.lookup r with|some c=> .ok c|none=> .error 23:=rfl
  rw[hs];cases cls.lookup r with
  |none=>exact .inl ⟨23,rfl,by decide,rfl⟩
  |some c=>exact .inr ⟨c,rfl,rfl⟩
 rw[h2,h1];have hs:mr gl cls t=match gl.lookup t with|some n=> .ok [(n:Int)]|none=> .error 23:=by
  unfold mr;split
  ·rename_i r;exact absurd rfl (h3 r)
  rfl
 rw[hs];simp only[Bool.false_eq_true,if_false];unfold jB fF;cases gl.lookup t with
 |none=>exact .inl ⟨23,rfl,by decide,rfl⟩
 |some n=>exact .inr ⟨[(n:Int)],rfl,rfl⟩
theorem Bv (gl:Gl)(cls:List (B×List Int))(acc:List Int)(l:List B)(ha:acc.length<=1000):(∃e,kz gl cls acc l= .error e/\e≠0/\(aT gl cls 0 acc l).1=e)\/(∃g,kz gl cls acc l= .ok g/\aT gl cls 0 acc l=(0,g)/\g.length<=1000):=by
 induction l generalizing acc with
 |nil=>exact .inr ⟨acc,rfl,rfl,ha⟩
 |cons t r ih=>
  rcases abD gl cls acc t with⟨e,h1,h2,h3⟩|⟨c,h1,h2⟩
  ·refine .inl ⟨e,by rw[kz,h1],h2,?_⟩;rw[aT,if_pos (by rw[h3];exact h2)];exact h3
  rw[kz,h1];by_cases h4:1000<(acc++c).length
  ·refine .inl ⟨2,by simp only[if_pos h4],by decide,?_⟩;rw[DJ h2 h4]
  simp only[if_neg h4];rw[MQ h2 (by omega)];exact ih (acc++c) (by omega)
section
variable {w w':World} {Bd p gm cm:Nat} {gl:Gl} {s:PS} {rv:Rows} {K:Nat}
theorem PSt.ajE (h:PSt w Bd p gm cm gl s rv K){t:B}{l:List Int}{A:Option Addr}{c:Nat}(hsl:Sl ahT 1 w (Fz w rv) A l)(hl:l.length<=2000)(hn:s.cls.lookup t=none){f:B->Option Value}
  (hf:∀t,(s.cls.lookup t=none/\f t=none)\/∃l A c,s.cls.lookup t=some l/\f t=some (.slice A l.length c)/\Sl ahT 1 w (Fz w rv) A l/\l.length<=2000)
  (hm:ah0 lU w' cm (fun t'=>if t'=t then some (.slice A l.length c) else f t')) (hg:w.grownBy w' (some cm)):
  PSt w' Bd p gm cm gl {s with cls:=s.cls++[(t,l)]} rv K/\KQ cm w w'/\Below Bd w w':=by
 obtain⟨f0,f1,f2⟩:=h.cls;have hr':∀g,some cm=some g->∀t cs,Bk w g t cs->lJ t=false:=fun g e t' cs' hb=>by
  injection e with e
  subst e;exact(f1.aiP hb).elim
 have ht:Tr w rv w' rv:=Tr.other hg hr';refine⟨{par:=h.par.keep (hg.block p h.par.lt fun e=> ?_),live:=h.live.other hg hr',fnt:=h.fnt.tr ht,gmp:=h.gmp.grown hg fun e=> ?_,glI:=h.glI,cls:=⟨_,hm,fun x=> ?_⟩,few:=h.few,low:=h.low},KQ.row hg fun g e=> ?_,(akl Bd w).grown hg h.size (fun g e=> ?_)⟩
 ·injection e with e
  subst e;exact f1.aiP h.par
 ·injection e with e
  exact h.low.2.2.2 e
 ·show((s.cls++[(t,l)]).lookup x=none/\_)\/_;rw[List.lookup_append];by_cases hx:x=t
  ·subst hx;refine .inr ⟨l,A,c,?_,if_pos rfl,ht.sl ahT.ok hsl,hl⟩;rw[hn];simp
  rw[if_neg hx];have hxt:(x==t)=false:=by simpa using hx
  have h0:([(t,l)]:List (B×List Int)).lookup x=none:=by simp[List.lookup,hxt]
  rw[h0,Option.or_none];rcases hf x with g|⟨l',A',c',e1,e2,e3,e4⟩
  ·exact .inl g
  exact .inr ⟨l',A',c',e1,e2,ht.sl ahT.ok e3,e4⟩
 ·injection e with e
  subst e;obtain⟨es,ck,hh⟩:=f1.isMap;exact⟨_,hh,fun hk=>hk rfl⟩
 injection e with e
 subst e;exact h.low.2.2.1
end
theorem Dl (gl:Gl)(s:PS)(t1:B)(r:List B)(h:∀row,eG r≠some [row]):iZ gl s (t1::r)= .error 22:=by
 show(match eG r with|some [row]=>_|_=>_)=_;split
 ·rename_i row he;exact absurd he (h row)
 rfl
theorem Dv (gl:Gl)(s:PS)(t1:B)(r row:List B)(h:eG r=some [row]):iZ gl s (t1::r)=if bg 0 t1≠0 then .error (bg 0 t1) else match kz gl s.cls [] row with
   | .error e=> .error e
   | .ok g=>if(s.cls.lookup t1).isSome then .error 24 else .ok {s with cls:=s.cls++[(t1,g)]} :=by
 show(match eG r with|some [row]=>_|_=>_)=_;rw[h];rfl
theorem QU (gl:Gl)(s:PS)(t1:B)(r row:List B)(h:eG r=some [row])(he:(aT gl s.cls (bg 0 t1) [] row).1≠0):iZ gl s (t1::r)= .error (aT gl s.cls (bg 0 t1) [] row).1:=by
 rw[Dv gl s t1 r row h];by_cases h0:bg 0 t1=0
 ·rw[h0] at he ⊢;rw[if_neg (by simp)];rcases Bv gl s.cls [] row (by simp) with⟨e,h1,h2,h3⟩|⟨g,h1,h2,h3⟩
  ·rw[h1,h3]
  rw[h2] at he;exact absurd rfl he
 rw[if_pos h0,ED _ _ _ h0]
theorem SY (gl:Gl)(s:PS)(t1:B)(r row:List B)(h:eG r=some [row])(he:(aT gl s.cls (bg 0 t1) [] row).1=0):iZ gl s (t1::r)=(if(s.cls.lookup t1).isSome then .error 24 else .ok {s with cls:=s.cls++[(t1,(aT gl s.cls (bg 0 t1) [] row).2)]})/\(aT gl s.cls (bg 0 t1) [] row).2.length<=1000:=by
 rw[Dv gl s t1 r row h];by_cases h0:bg 0 t1=0
 ·rw[h0] at he ⊢;rw[if_neg (by simp)];rcases Bv gl s.cls [] row (by simp) with⟨e,h1,h2,h3⟩|⟨g,h1,h2,h3⟩
  ·exact absurd (h3.symm.trans he) h2
  rw[h1,h2];exact⟨rfl,h3⟩
 rw[ED _ _ _ h0] at he;exact absurd he h0
theorem Oy (gl:Gl)(cls:List (B×List Int))(hg:∀t n,gl.lookup t=some n->n<=1000000000)(hc:∀t l,cls.lookup t=some l->∀x∈l,I64 x)(er:Int)(acc:List Int)(ha:∀x∈acc,I64 x)(l:List B):∀x∈(aT gl cls er acc l).2,I64 x:=by
 have hw:∀er acc t,(∀x∈acc,I64 x)->∀x∈(ik gl cls er acc t).2,I64 x:=by
  intro er acc t ha;unfold ik;split
  ·split
   ·rename_i c hcl;intro x hx;rcases akq.1 hx with h|h
    ·exact ha x h
    exact hc _ _ hcl x h
   exact ha
  intro x hx;rcases akq.1 hx with h|h
  ·exact ha x h
  simp only[akm] at h;subst h;exact Cb hg t
 induction l generalizing er acc with
 |nil=>exact ha
 |cons t r ih=>
  rw[aT];split
  ·exact hw er acc t ha
  split
  ·exact hw er acc t ha
  exact ih _ _ (hw er acc t ha)
theorem Sl.ints {w:World}{S:Bs}{A:Option Addr}{l:List Int}(h:Sl ahT 1 w S A l):∀x∈l,I64 x:=by intro x hx;obtain⟨k,hk⟩:=akG.1 hx;obtain⟨b,o,x',_,_,hx',_,hi⟩:=h.int (akn.1 hk).1;have:=hx'.out;rw[hk] at this;cases this;exact hi
theorem PSt.ajW {w:World}{Bd p gm cm:Nat}{gl:Gl}{s:PS}{rv:Rows}{K:Nat}(h:PSt w Bd p gm cm gl s rv K):∀t l,s.cls.lookup t=some l->∀x∈l,I64 x:=by
 intro t l hl;obtain⟨f,h1,h2⟩:=h.cls;rcases h2 t with⟨g,_⟩|⟨l',A,c,e1,e2,e3,e4⟩
 ·rw[g] at hl;cases hl
 rw[e1] at hl;cases hl;exact e3.ints
end
section
theorem aaJ (n:Nat)(s:List Int):∀k:Int,k<=n->s.Pairwise (· < ·)->(∀x∈s,k<=x/\x<n)->k+s.length<=n:=by
 induction s with
 |nil=>intro k hk _ _;simpa using hk
 |cons a r ih=>intro k _ hp h;rw[List.pairwise_cons] at hp;have h0:=h a (by simp);have:=ih (a+1) (by omega) hp.2 (fun x hx=>⟨by have:=hp.1 x hx;omega,(h x (by simp[hx])).2⟩);rw[aF];omega
theorem OkS.len {n:Nat}{s:List Int}(h:OkS n s):s.length<=n:=by have:=aaJ n s 0 (by omega) h.1 (fun x hx=>h.2 x hx);omega
structure CpR (r:aii):Prop where
 rows:r.back.length<=6/\r.in'.length<=6/\r.ahead.length<=6
 sets:(∀s∈r.back,s.length<=400)/\(∀s∈r.in',s.length<=400)/\∀s∈r.ahead,s.length<=400
 outs:r.out.length<=400/\r.calls.length<=6
structure CpG (g:ahR):Prop where
 pts:g.points.length<=200
 ends:g.ends.length<=40
 parts:g.parts.length<=8
 anch:g.anchors.length<=16
 aid:g.deltas.length<=400
 hint:g.hint.length<=200
structure CpF (f:Fnt):Prop where
 ahO:f.ahO.length<=400/\∀g∈f.ahO,CpG g
 chars:f.chars.length<=1000
 ahP:f.ahP.length<=40/\∀l∈f.ahP,l.rules.length<=60/\∀r∈l.rules,CpR r
 ahZ:f.features.length<=20/\∀x∈f.features,x.ahP.length<=40
 ahQ:f.ahQ.length<=3
 regs:f.regions.length<=16/\∀r∈f.regions,r.ah4.length<=3
 funcs:f.funcs.length<=20/\∀p∈f.funcs,p.length<=200
 cvt:f.cvt.length<=64
theorem ajc.cp {n m:Nat}{kd:Int}{r:aii}(h:ajc n m kd r)(hn:n<=400):CpR r where
 rows:=h.shape.1
 sets:=⟨fun s hs=>nt (h.sets s (by simp[hs])).len hn,fun s hs=>nt (h.sets s (by simp[hs])).len hn,fun s hs=>nt (h.sets s (by simp[hs])).len hn⟩
 outs:=by
  refine⟨?_,nt h.outs.few (by decide)⟩;obtain⟨w1,w2,w3,w4⟩:=h.outs.w;by_cases k1:kd=1\/kd=5
  ·cases hi:r.in' with
   |nil=>exact absurd hi h.shape.2.1
   |cons s t=>have:=w1 k1 s (by rw[hi];rfl);have:=(h.sets s (by rw[hi];simp)).len;omega
  by_cases k2:kd=2
  ·have:=w2 k2;omega
  by_cases k3:kd=3
  ·have:=w3 k3;omega
  rw[w4 (by omega) k2 k3 (by omega)];simp
theorem aiB.cp {f:Fnt}(h:aiB f):CpF f where
 ahO:=⟨h.ahO.few,fun g hg=>by
  have k:=h.ahO.each g hg;exact⟨k.pts.1,k.ends.1,k.parts.1,k.anch.1,k.aid.1,k.hint.1⟩⟩
 chars:=h.chars.1
 ahP:=⟨h.looks.1.1,fun l hl=>⟨(h.looks.1.2 l hl).few,fun r hr=>((h.looks.1.2 l hl).rules r hr).cp h.ahO.few⟩⟩
 ahZ:=⟨h.looks.2.1,fun x hx=>nt (h.looks.2.2 x hx).few h.looks.1.1⟩
 ahQ:=h.ahQ.1.1
 regs:=⟨h.ahQ.2.1,fun r hr=>by have:=(h.ahQ.2.2 r hr).1;have:=h.ahQ.1.1;omega⟩
 funcs:=⟨h.ajd.1.1,fun p hp=>(h.ajd.1.2 p hp).1⟩
 cvt:=h.ajd.2.1
theorem CpF.cap {f:Fnt}(h:CpF f):ajD f where
 ahO:=⟨by have:=h.ahO.1;omega,fun g hg=>by
  have k:=h.ahO.2 g hg;exact⟨by have:=k.pts;omega,by have:=k.ends;omega,by have:=k.parts;omega,by have:=k.anch;omega,by have:=k.aid;omega,by have:=k.hint;omega⟩⟩
 chars:=h.chars
 ahP:=⟨by have:=h.ahP.1;omega,fun l hl=>⟨by have:=(h.ahP.2 l hl).1;omega,fun r hr=>by
  have k:=(h.ahP.2 l hl).2 r hr;obtain⟨a,b,c⟩:=k.rows;obtain⟨d,e⟩:=k.outs;exact⟨⟨by omega,by omega,by omega⟩,by omega,by omega⟩⟩⟩
 ahZ:=⟨by have:=h.ahZ.1;omega,fun x hx=>by have:=h.ahZ.2 x hx;omega⟩
 ahQ:=by have:=h.ahQ;omega
 regs:=⟨by have:=h.regs.1;omega,fun x hx=>by have:=h.regs.2 x hx;omega⟩
 funcs:=⟨by have:=h.funcs.1;omega,fun x hx=>by have:=h.funcs.2 x hx;omega⟩
 cvt:=by have:=h.cvt;omega
theorem OQ {p:List Ins}(h:xg p)(hl:p.length<=200){a:B}(ha:a.length<=32):Lk [a::p.map dw] 6634:=Lk.line (n:=201) (.cons ha (abE h)) (by rw[aF,aks];omega)
theorem Xn {gs:List ahR}(hn:∀g∈gs,nameB g.name=true)(all:Bool){g:ahR}(h:OkG gs.length g)(hs:CpG g):Lk (uu gs all g) 342247:=by
 unfold uu;have e:342247=133+(40*6634+(8*133+(16*166+(400*166+6634)))):=rfl;rw[e];obtain⟨c1,c2⟩:=UB g.points g.ends 0;refine .cons (Lk.line (n:=4) (.cons (by decide) (.cons (nt (ut h.name) (by decide)) (.cons (n32 h.adv) ?_))) ?_) (.app (.map (fun c hc=> ?_) (nt c1 hs.ends)) (.app (.map (fun p hp=> ?_) hs.parts) (.app (.map (fun a ha=> ?_) hs.anch) (.app (.map (fun d hd=> ?_) hs.aid) ?_))))
 ·split
  ·exact .cons (by decide) .nil
  exact .nil
 ·unfold MP;simp only[aF];split<;>simp
 ·obtain⟨d1,d2⟩:=c2 c hc;exact Lk.line (n:=201) (.cons (by decide) (.map fun p hp=>aar (h.pts p (d2 p hp)))) (by unfold O3;rw[aF,aks];have:=hs.pts;omega)
 ·have:=h.parts p hp;exact Lk.line (n:=4) (.cons (by decide) (.cons (zS hn this.1) (.cons (n32 this.2.1) (.cons (n32 this.2.2) .nil)))) (by simp[Dq])
 ·have:=h.anch a ha;exact Lk.line (n:=5) (.cons (by decide) (.cons (nt (Dz _ 9 SB (by decide) _) (by decide)) (.cons (n32 this.2.2.1) (.cons (n32 this.2.2.2.1) (.cons (n32 this.2.2.2.2) .nil))))) (by simp[Dh])
 ·have:=h.aid d hd;exact Lk.line (n:=5) (.cons (by decide) (.cons (n32 this.1) (.cons (n32 this.2.1) (.cons (n32 this.2.2.1) (.cons (n32 this.2.2.2) .nil))))) (by simp[Dn])
 split
 ·exact OQ h.hint hs.hint (by decide)
 exact .nil _
theorem GV {gs:List ahR}(hn:∀g∈gs,nameB g.name=true)(l:List (List Int))(h:∀s∈l,∀n∈s,In gs.length n)(h4:∀s∈l,s.length<=400)(h3:l.length<=6):W32 (bJ gs l)/\(bJ gs l).length<=2412:=by
 unfold bJ;refine⟨.flat fun s hs=> ?_,oG l _ 402 6 (fun s hs=> ?_) h3⟩
 ·unfold setW;split
  ·exact .cons (zS hn (h _ hs _ (by simp))) .nil
  exact(W32.cons (by decide) (.map fun n hn'=>zS hn (h s hs n hn'))).app (.cons (by decide) .nil)
 have:=h4 s hs;unfold setW;split
 ·simp
 simp only[akC,aF,la,aks,ln];omega
theorem ZB {gs:List ahR}(hn:∀g∈gs,nameB g.name=true){kind:Int}{r:aii}(h:OkR gs.length kind r)(hs:CpR r):
  Lk [dF::(bJ gs r.back++[47]::bJ gs r.in'++[47]::bJ gs r.ahead++[62]::outW gs kind r)] 252121:=by
 obtain⟨a1,a2⟩:=GV hn r.back (fun s hs=>(h.back s hs).2) hs.sets.1 hs.rows.1;obtain⟨b1,b2⟩:=GV hn r.in' (fun s hs=>(h.in' s hs).2) hs.sets.2.1 hs.rows.2.1;obtain⟨c1,c2⟩:=GV hn r.ahead (fun s hs=>(h.ahead s hs).2) hs.sets.2.2 hs.rows.2.2;have ho:W32 (outW gs kind r)/\(outW gs kind r).length<=400:=by
  unfold outW;split
  ·exact⟨.map fun n hn'=>zS hn (h.out n hn'),by rw[aks];exact hs.outs.1⟩
  split
  ·exact⟨.map fun c hc=>V4 (h.calls c hc),by rw[aks];have:=hs.outs.2;omega⟩
  split
  ·exact⟨.cons (n32 h.x) .nil,by simp⟩
  exact⟨.nil,by simp⟩
 refine Lk.line (n:=7640) (.cons (by decide) ((((a1.app (.cons (by decide) b1)).app (.cons (by decide) c1))).app (.cons (by decide) ho.1))) ?_;simp only[aF,la];omega
theorem Vp {gs:List ahR}(hn:∀g∈gs,nameB g.name=true){l:Lookup}(h:∀r∈l.rules,OkR gs.length l.kind r)(hs:l.rules.length<=60/\∀r∈l.rules,CpR r):Lk (CX gs (bJ gs) l) 15127360:=by
 unfold CX;have e:15127360=100+60*252121:=rfl;rw[e];refine .cons (Lk.line (n:=3) (.cons (by decide) (.cons (nt (Dz _ 9 Xx (by decide) _) (by decide)) ?_)) ?_) (.map (fun r hr=>ZB hn (h r hr) (hs.2 r hr)) hs.1)
 ·split
  ·exact .cons (by decide) .nil
  exact .nil
 unfold KR;simp only[aF];split<;>simp
theorem aeL {f:Fnt}(h:aiV f)(hs:CpF f):(kw f).length<=750000000:=by
 have hN:=Nl h;have ha:Lk (f.ahQ.map yN) (3*166):= .map (fun a ha=>by
  have:=h.ahQ a ha;exact Lk.line (n:=5) (.cons (by decide) (.cons (nt (ut this.1) (by decide)) (.cons (n32 this.2.1) (.cons (n32 this.2.2.1) (.cons (n32 this.2.2.2) .nil))))) (by simp[yN])) hs.ahQ
 have hr:Lk (f.regions.map zY) (16*331):= .map (fun r hr=>by
  have:=h.regs r hr;refine Lk.line (n:=10) (.cons (by decide) (.flat fun t ht=> .cons (n32 (this t ht).1) (.cons (n32 (this t ht).2.1) (.cons (n32 (this t ht).2.2) .nil)))) ?_;have:=oG r.ah4 jM 3 3 (fun t _=>by simp[jM]) (hs.regs.2 r hr);unfold zY;rw[aF];omega) hs.regs.1
 have hf:Lk (f.funcs.map Jz) (20*6634):= .map (fun p hp=>OQ (h.funcs p hp) (hs.funcs.2 p hp) (by decide)) hs.funcs.1;have hg:Lk (f.ahO.flatMap (uu f.ahO false)) (400*342247):= .flat (fun g hg=>Xn hN false (h.ahO g hg) (hs.ahO.2 g hg)) hs.ahO.1;have hch:Lk (f.chars.map (yP f.ahO)) (1000*100):= .map (fun c hc=>Lk.line (n:=3) (.cons (by decide) (.cons (n32 (h.chars c hc).1) (.cons (zS hN (h.chars c hc).2) .nil))) (by simp[yP])) hs.chars;have hx:Lk (f.features.map CZ) (20*1387):= .map (fun x hx=>Lk.line (n:=42) (.cons (by decide) (.cons (nt (ut (h.ahZ x hx).1) (by decide)) (.it (h.ahZ x hx).2))) (by
  have:=hs.ahZ.2 x hx;simp only[CZ,aF,aks];omega)) hs.ahZ.1
 have hl:Lk (f.ahP.flatMap (CX f.ahO (bJ f.ahO))) (40*15127360):= .flat (fun l hl=>Vp hN (h.ahP l hl).2.2 (hs.ahP.2 l hl)) hs.ahP.1;have hc:Lk (if f.cvt.isEmpty then [] else [kF::f.cvt.map ag]) 2146:=by
  split
  ·exact .nil _
  exact Lk.line (n:=65) (.cons (by decide) (.it h.cvt)) (by have:=hs.cvt;simp only[aF,aks];omega)
 have key:Lk (uY f) 750000000:=by unfold uY;exact .mono ((YQ h).app (ha.app (hr.app (hc.app (hf.app (hg.app (hch.app (hl.app hx)))))))) (by decide)
 rw[<-Fh];exact key
theorem aiB.len {f:Fnt}(h:aiB f):(kw f).length<=750000000:=aeL h.right h.cp
theorem aiB.print {f:Fnt}(h:aiB f):(lF f).length<=100000000000000:=UO h.right h.cp.cap
attribute [-go_sem] Builtin.append_
theorem ND (w:World)(gl:Gl)(s:PS)(t1:B)(r:List B)(ws2:List P3)(hw:af ws2=r):(iU ws2=none->iZ gl s (t1::r)= .error 22)/\(∀rows,iU ws2=some rows->rows.length≠1->iZ gl s (t1::r)= .error 22)/\(∀row,iU ws2=some [row]->eG r=some [af row]):=by
 have h:=lT ws2;rw[hw] at h;refine⟨fun e=> ?_,fun rows e hl=> ?_,fun row e=> ?_⟩
 ·rw[e] at h;exact Dl _ _ _ _ fun row e'=>by rw[h] at e';cases e'
 ·rw[e] at h;refine Dl _ _ _ _ fun row e'=> ?_
  rw[h] at e';injection e' with e'
  have:=congrArg List.length e';simp at this;exact hl this
 rw[e] at h;exact h
theorem KN (w:World)(Bd p gm cm:Nat)(gl:Gl)(s:PS)(rv:Rows)(K:Nat)(A:Option Addr)(n c:Nat)(ws:List P3)(t:B)(l:List B)(hP:PSt w Bd p gm cm gl s rv K)(hL:aif w A n ws)(hT:af ws=t::l)(hc:n<=c):
  Calls Tryz.prog 78 #[.pointer (some ⟨p,0,none⟩),.slice A n c] w (ahS w Bd p gm cm gl (K+n) (iZ gl s l)):=by
 have hn:n=l.length+1:=by rw[<-hL.length];exact dE hT
 have hB:=hP.size;have hnn:=hL.few;cases l with
 |nil=>
  have HR:Hid (iZ gl s []= .error 22):=rfl;simp only[ln] at hn;subst hn;clear hP hL hT hc;go_enter Tryz.func78,Tryz.ntmps78
  go_wp2;go_ret
  exact ahS.bad HR.out (akl _ _)
 |cons t1 r=>
  have abG:=hL.length;obtain⟨A',hsub,hrd,hlen⟩:=hL.sub hc 2 2 rfl (by simp at hn;omega);obtain⟨b,o,rfl,hb,q1,hz1⟩:=hL.word (k:=1) (t:=t1) (by rw[hT];rfl) (d:=3) rfl;have hrest:af (ws.drop 2)=r:=by rw[Ak,hT];rfl
  obtain⟨c1,c2,c3⟩:=ND w gl s t1 r (ws.drop 2) hrest;have hds:(ws.drop 2).length<=1000000000:=by rw[ak0];omega
  have hset:=hd0 (MK w (ws.drop 2) w.heap.size A' (n - 2) (c - 2) hrd.rd (nr _) (by omega));have HP:=hd0 hP;have hpb:p<w.heap.size:=hP.par.lt;have uS:=hd0 (fun w rb er h=>wP w rb p er t1 h);have hn2:2<=n:=by simp at hn;omega
  have en:((n:Int)<2)=False:=by simp;omega
  have HC1:=hd0 c1;have HC2:=hd0 c2;have HC3:=hd0 c3;have Kw:=hd0 hds;generalize ws.drop 2=ws2 at*
  clear hP hL hT hrd hlen hn hz1 hrest c1 c2 c3 hds;go_enter Tryz.func78,Tryz.ntmps78
  cases hsl:iU ws2 with
  |none=>
   have HR:=hd0 (HC1.out hsl);have hs2:∀e w',gJ 124 119 w ws2 e w'->e= .returned (.tuple #[.slice none 0 0,.bool false])/\Below w.heap.size w w':=fun e w' h=>by unfold gJ at h;rw[hsl] at h;exact h
   have HS2:=hd0 hs2;clear hs2 hsl;go_wp2_with fail
   refine hset.out.mono ?_;rintro e w1 hpost;obtain⟨rfl,hb1⟩:=HS2.out _ _ hpost;clear hpost;go_wp2;go_ret
   exact ahS.bad HR.out (hb1.mono hB)
  |some rows=>
   have hs2:∀e w',gJ 124 119 w ws2 e w'->∃v,e= .returned (.tuple #[v,.bool true])/\uq 124 119 w w' rows v:=fun e w' h=>by unfold gJ at h;rw[hsl] at h;exact h
   have HS2:=hd0 hs2;have HSL:=hd0 hsl;clear hs2 hsl;go_wp2_with fail
   refine hset.out.mono ?_;rintro e w1 hpost;obtain⟨v,rfl,A2,c2,hs,rfl,aaw,hin,hb1⟩:=HS2.out _ _ hpost;have HB1:=hd0 hb1;have Ud:=hd0 hin;have EN:=hd0 aaw;clear hpost hb1 hin aaw;by_cases hone:rows.length=1
   ·obtain⟨row,rfl⟩:∃row,rows=[row]:=by
     match rows,hone with
     |[a],_=>exact⟨a,rfl⟩
    have hsT:=hd0 (HC3.out row HSL.out);have hrow:=(uk HSL.out).2 row (by simp);have hds:=Kw.out;obtain⟨Ar,kr,cr,hh0,hrr,hkc⟩:=Ud.out.2 0 row rfl;obtain⟨b2,o2,DT,rfl,hb2,abQ⟩:=EN.out.2 (by simp);have z2:w1.cell? ⟨b2,o2,none⟩=some (.slice Ar kr cr):=(hb2.cell o2).trans (abQ 0 _ hh0);have Ad:b2<w1.heap.size:=hb2.lt;have hkr:kr=row.length:=hrr.rd.aiE.symm;have adS:kr<=1000000000:=by omega
    have HRR:=hd0 hrr;clear hrr hb2 abQ hh0 hrow hds hone hkr;simp only[aF,ln,ak3];go_wp2_with fail
    refine(fZ w1 p).mono ?_;rintro e w2 ⟨rfl,hr2,hb2⟩;have hs1:=HB1.out.size;have Hb2:Hid (Below w.heap.size w w2):=HB1.out.trans (hb2.mono hs1);have Kt:=hd0 (HRR.out.below hb2);have z3:w2.cell? ⟨b2,o2,none⟩=some (.slice Ar kr cr):=((aj hb2).1 _ _ Ad).trans z2;have q2:w2.cell? ⟨b,o+3+2,none⟩=some (.string ⟨t1.toArray⟩):=((aj Hb2.out).1 _ _ hb).trans q1;have hl2:=hr2.lt;have hs2:=hb2.size;have lm:=hd0 hr2;have ae7:=hd0 hb2;clear hr2 hb2;go_wp2_with fail
    refine(uS.out _ _ _ (by exact lm.out)).mono ?_;rintro e w3 ⟨rfl,hr3,hg3⟩;have Hb3:=hd0 (aU Hb2.out hg3 hs1);have z4:w3.cell? ⟨b2,o2,none⟩=some (.slice Ar kr cr):=((aj (aU ae7.out hg3 (nr _))).1 _ _ Ad).trans z2;have Lh:=hd0 (G9 Kt.out lm.out hg3);have CV:=hd0 ((HP.out.below Hb3.out).at);have lG:=hd0 hr3;have hs3:=hg3.size;clear hr3 hg3;go_wp2_with fail
    refine(Ut w3 w1.heap.size p gm cm gl s.cls (bg 0 t1) Ar kr cr row lG.out CV.out Lh.out adS).mono ?_;rintro e w4 ⟨v,rfl,A5,c5,rfl,vH,nC,hg5⟩;have hb5:=aU Hb3.out hg5 hs1;have k5:w4.cell? ⟨w1.heap.size,1,none⟩=some (.int .i64 (aT gl s.cls (bg 0 t1) [] (af row)).1):=nC.cell 1;by_cases her:(aT gl s.cls (bg 0 t1) [] (af row)).1=0
    ·obtain⟨HRk,hle⟩:=SY gl s t1 r (af row) hsT.out her;have OB:=Oy gl s.cls HP.out.glI HP.out.ajW (bg 0 t1) [] (by simp) (af row);rw[her] at k5;generalize (aT gl s.cls (bg 0 t1) [] (af row)).2=res at*
     have aB:=HP.out.below hb5;obtain⟨f,hf1,hf2⟩:=aB.cls;have vC:w4.cell? ⟨p,11,none⟩=some (.map (some cm)):=aB.par.cell 11;have zp:p<w4.heap.size:=aB.par.lt;have hlk:=hf1.ai2 Tryz.underlying114 Tryz.underlying9 (O8 _) t1;have hlk2:(Instr.lookup 114 (.map (some cm)) (.string ⟨t1.toArray⟩) true).run Tryz.prog w4= .ok (.tuple #[(f t1).getD (.slice none 0 0),.bool (f t1).isSome]) w4:=hlk;rcases hf2 t1 with⟨g1,g2⟩|⟨l9,A9,c9,g1,g2,g3,g4⟩
     ·have HR2:Hid (iZ gl s (t1::r)= .ok {s with cls:=s.cls++[(t1,res)]}):=by
       show _=_;rw[HRk,g1];rfl
      rw[g2] at hlk2;simp only[Option.getD_none,Option.isSome_none] at hlk2;obtain⟨w9,hput,tZ,aN⟩:=hf1.put Tryz.underlying114 Tryz.underlying9 t1 (.slice A5 res.length c5) g2;have YK:(Instr.mapUpdate 114 (.map (some cm)) (.string ⟨t1.toArray⟩) (.slice A5 res.length c5)).run Tryz.prog w4= .ok () w9:=hput;have XF:=hd0 (aB.ajE (l:=res) (Sl.aiC vH (zh _ _ _ OB) (HP.out.fresh vH (by omega) (by decide)) (by decide)) (by omega) g1 hf2 tZ aN);have HQ:=hd0 (KQ.below (cm:=cm) hb5);have rF:=hd0 (hb5.mono hB);clear HRk hle OB hf1 hf2 hlk hput tZ aN aB vH nC hg5 hb5 her g1 g2;go_wp2_with fail
      go_ret
      exact ahS.good HR2.out (rF.out.trans XF.out.2.2) (HQ.out.trans XF.out.2.1) (XF.out.1.mono (akA _ _))
     have HR2:Hid (iZ gl s (t1::r)= .error 24):=by show _=_;rw[HRk,g1];rfl
     rw[g2] at hlk2;simp only[Option.getD_some,Option.isSome_some] at hlk2;have rF:=hd0 (hb5.mono hB);clear HRk hle OB hf1 hf2 hlk aB vH nC hg5 hb5 her g1 g2 g3 g4;go_wp2_with fail
     go_ret
     exact ahS.bad HR2.out rF.out
    have HR2:=hd0 (QU gl s t1 r (af row) hsT.out her);generalize (aT gl s.cls (bg 0 t1) [] (af row)).1=er at*
    generalize (aT gl s.cls (bg 0 t1) [] (af row)).2=res at*
    have e1:(er==0)=false:=by simpa using her
    have e2:(er !=0)=true:=by simpa using her
    have rF:=hd0 (hb5.mono hB);clear vH nC hg5 hb5 her;go_wp2_with fail
    go_ret
    exact ahS.bad HR2.out rF.out
   have HR:=hd0 (HC2.out rows HSL.out hone);have e1:((rows.length:Int)==1)=false:=by simp;omega
   have e2:((rows.length:Int) !=1)=true:=by simp;omega
   clear hone;go_wp2;go_ret
   exact ahS.bad HR.out (HB1.out.mono hB)
end
end Go.Proofs.YtkijckccfookeaaGreatDoor
