/- Lemmas. -/
import Derived.Test.YtkijckccfookeaaGreatDoorV49
import Derived.Test.YtkijckccfookeaaGreatDoorSrcE
import Derived.Test.YtkijckccfookeaaGreatDoorPrF
import Derived.Test.YtkijckccfookeaaGreatDoorCards
import Derived.Test.YtkijckccfookeaaGreatDoorTie
import Derived.LaidMore
import Derived.Lay
set_option linter.unusedVariables false
set_option linter.unusedSimpArgs false
set_option maxRecDepth 100000
set_option maxHeartbeats 32000000
namespace Go.Proofs.YtkijckccfookeaaGreatDoor
section
open Go.RowKit
theorem an4.apX {w w':World}{fc:List Value}{f:Fnt}(h:an4 w (Tf w) fc f)(hb:Below w.heap.size w w'):an4 w' (Lw w') fc f:=an4.ok.mono (an4.ok.keep h (fun b hb'=>hb.block b (Tf.lt b hb'))) (fun b hb'=>aqu (Tf.lt b hb') hb.size)
theorem an4.tf {w w':World}{fc:List Value}{f:Fnt}(h:an4 w (Tf w) fc f)(hb:Below w.heap.size w w'):an4 w' (Tf w') fc f:=
 an4.ok.mono (an4.ok.keep h (fun b hb'=>hb.block b (Tf.lt b hb'))) (fun b hb'=>by
  obtain⟨cs,t,hk,ht⟩:=hb';exact⟨cs,t,(hb.block b hk.lt).trans hk,ht⟩)
theorem Dt.lt' {w:World}:∀b,Dt w b->b<w.heap.size:=fun _ ⟨_,_,h,_⟩=>h.lt
theorem an4.aqh {w w':World}{fc:List Value}{f:Fnt}(h:an4 w (Dt w) fc f)(hb:Below w.heap.size w w'):an4 w' (Lw w') fc f:=an4.ok.mono (an4.ok.keep h (fun b hb'=>hb.block b (Dt.lt' b hb'))) (fun b hb'=>aqu (Dt.lt' b hb') hb.size)
theorem NK (w:World)(A:Option Addr)(n c:Nat)(zs:List Int)(hc:n<=c)(hr:Rd w w.heap.size A n 1 (aP zs))(hz:∀z∈zs,I64 z)(fF:aoi w)(ng:nT<=w.heap.size):
  Calls Tryz.prog 5 #[.slice A n c] w fun e w'=>e= .returned (.bool true)/\Below w.heap.size w w':=by
 have hsh:=hd0 (EM w fF ng);have afj:=hd0 (fun(w0:World) (hb0:Below w.heap.size w w0)=>EU w0 A n c zs hc ((hr.below hb0 (ag _)).mono hb0.size) hz);have Cf:=hd0 fF;clear hr hz fF;go_enter Tryz.func5,Tryz.ntmps5
 go_wp2_with fail
 refine hsh.out.mono ?_;rintro e w0 ⟨rfl,hb0⟩;have hmk:=hd0 (afj.out w0 hb0);have HB0:=hd0 hb0;have hz0:=hb0.size;clear hb0 afj hsh;go_wp2_with fail
 refine hmk.out.mono ?_;rintro e w1 ⟨f,fc,hm,rfl,hf,hb1'⟩;have hb1:Below w.heap.size w w1:=HB0.out.trans (hb1'.mono hz0);have HB1:=hd0 hb1;have HM:=hd0 hm;have HF:=hd0 hf;have hz1:=hb1.size;obtain⟨A1,c1,A2,c2,A3,c3,A4,c4,A5,c5,A6,c6,A7,c7,A8,c8,rfl,-⟩:=hf;clear hb1 hb1' hm hmk;obtain⟨W1,hW1⟩:∃W1,w1.alloc (.cells #[.int .i64 f.unit,.slice A1 f.anL.length c1,.slice A2 f.chars.length c2,.slice A3 f.anM.length c3,.slice A4 f.features.length c4,.slice A5 f.anR.length c5,.slice A6 f.regions.length c6,.slice A7 f.funcs.length c7,.slice A8 f.cvt.length c8] 32)=W1:=⟨_,rfl⟩
 have hbW:Below w1.heap.size w1 W1:=by rw[<-hW1];exact(aqk _ _).alloc (ag _) _
 have hkW:Bk W1 w1.heap.size 32 #[.int .i64 f.unit,.slice A1 f.anL.length c1,.slice A2 f.chars.length c2,.slice A3 f.anM.length c3,.slice A4 f.features.length c4,.slice A5 f.anR.length c5,.slice A6 f.regions.length c6,.slice A7 f.funcs.length c7,.slice A8 f.cvt.length c8]:=by rw[<-hW1];exact Bk.new _ _ _
 have sW:=hd0 hkW;have Ls:=hd0 hbW;have zf:=hkW.lt;have agc:=HB1.out.trans (hbW.mono hz1);have Vs:=hd0 agc;have HU:=hd0 (src_ok W1 f _ (HF.out.apX hbW) HM.out.right HM.out.small);clear hkW hbW agc;have a0:W1.cell? ⟨w1.heap.size,0,none⟩=some (.int .i64 f.unit):=sW.out.cell 0;have a1:W1.cell? ⟨w1.heap.size,1,none⟩=some (.slice A1 f.anL.length c1):=sW.out.cell 1;have a2:W1.cell? ⟨w1.heap.size,2,none⟩=some (.slice A2 f.chars.length c2):=sW.out.cell 2;have a3:W1.cell? ⟨w1.heap.size,3,none⟩=some (.slice A3 f.anM.length c3):=sW.out.cell 3;have a4:W1.cell? ⟨w1.heap.size,4,none⟩=some (.slice A4 f.features.length c4):=sW.out.cell 4;have a5:W1.cell? ⟨w1.heap.size,5,none⟩=some (.slice A5 f.anR.length c5):=sW.out.cell 5;have a6:W1.cell? ⟨w1.heap.size,6,none⟩=some (.slice A6 f.regions.length c6):=sW.out.cell 6;have a7:W1.cell? ⟨w1.heap.size,7,none⟩=some (.slice A7 f.funcs.length c7):=sW.out.cell 7;have a8:W1.cell? ⟨w1.heap.size,8,none⟩=some (.slice A8 f.cvt.length c8):=sW.out.cell 8;go_wp2_with fail
 clear hW1 a0 a1 a2 a3 a4 a5 a6 a7 a8;refine HU.out.mono ?_;rintro e w2 ⟨rfl,hb2⟩;have Wj:=Vs.out.trans (hb2.mono Vs.out.size);have hp:=oh w2 (Aw f) (nt (by rw[<-xx HM.out.right];exact Ad HM.out.right HM.out.small) (by decide)) (Cf.out.below Wj) (nt ng Wj.size);rw[<-xx HM.out.right,PE HM.out.right,xx HM.out.right] at hp;have HP:=hd0 hp;have HB2:=hd0 hb2;have alR:=hd0 Wj;clear hp hb2 Wj HU;generalize Aw f=S at*
 go_wp2_with fail
 refine HP.out.mono ?_;rintro e w3 ⟨hb3,gc,rfl,hg⟩;have HGL:=hd0 hg;obtain⟨B1,d1,B2,d2,B3,d3,B4,d4,B5,d5,B6,d6,B7,d7,B8,d8,rfl,-⟩:=hg;obtain⟨W3,hW3⟩:∃W3,w3.alloc (.cells #[.int .i64 f.unit,.slice B1 f.anL.length d1,.slice B2 f.chars.length d2,.slice B3 f.anM.length d3,.slice B4 f.features.length d4,.slice B5 f.anR.length d5,.slice B6 f.regions.length d6,.slice B7 f.funcs.length d7,.slice B8 f.cvt.length d8] 32)=W3:=⟨_,rfl⟩
 have ab2:Below w3.heap.size w3 W3:=by rw[<-hW3];exact(aqk _ _).alloc (ag _) _
 have aah:Bk W3 w3.heap.size 32 #[.int .i64 f.unit,.slice B1 f.anL.length d1,.slice B2 f.chars.length d2,.slice B3 f.anM.length d3,.slice B4 f.features.length d4,.slice B5 f.anR.length d5,.slice B6 f.regions.length d6,.slice B7 f.funcs.length d7,.slice B8 f.cvt.length d8]:=by rw[<-hW3];exact Bk.new _ _ _
 have lm:Below W1.heap.size W1 W3:=(HB2.out.trans (hb3.mono HB2.out.size)).trans (ab2.mono (nt HB2.out.size hb3.size));have agt:=Vs.out.trans (lm.mono Vs.out.size);have jw:=hd0 lm;have ako:=hd0 agt;have aiS:=hd0 ab2;have jI:=hd0 aah;have zg:=aah.lt;have zw:=lm.size;have x0:W3.cell? ⟨w1.heap.size,0,none⟩=some (.int .i64 f.unit):=(((af jw.out).1 _ _ zf).trans (sW.out.cell 0))
 have x1:W3.cell? ⟨w1.heap.size,1,none⟩=some (.slice A1 f.anL.length c1):=(((af jw.out).1 _ _ zf).trans (sW.out.cell 1))
 have x2:W3.cell? ⟨w1.heap.size,2,none⟩=some (.slice A2 f.chars.length c2):=(((af jw.out).1 _ _ zf).trans (sW.out.cell 2))
 have x3:W3.cell? ⟨w1.heap.size,3,none⟩=some (.slice A3 f.anM.length c3):=(((af jw.out).1 _ _ zf).trans (sW.out.cell 3))
 have x4:W3.cell? ⟨w1.heap.size,4,none⟩=some (.slice A4 f.features.length c4):=(((af jw.out).1 _ _ zf).trans (sW.out.cell 4))
 have x5:W3.cell? ⟨w1.heap.size,5,none⟩=some (.slice A5 f.anR.length c5):=(((af jw.out).1 _ _ zf).trans (sW.out.cell 5))
 have x6:W3.cell? ⟨w1.heap.size,6,none⟩=some (.slice A6 f.regions.length c6):=(((af jw.out).1 _ _ zf).trans (sW.out.cell 6))
 have x7:W3.cell? ⟨w1.heap.size,7,none⟩=some (.slice A7 f.funcs.length c7):=(((af jw.out).1 _ _ zf).trans (sW.out.cell 7))
 have x8:W3.cell? ⟨w1.heap.size,8,none⟩=some (.slice A8 f.cvt.length c8):=(((af jw.out).1 _ _ zf).trans (sW.out.cell 8))
 have y0:W3.cell? ⟨w3.heap.size,0,none⟩=some (.int .i64 f.unit):=(jI.out.cell 0)
 have y1:W3.cell? ⟨w3.heap.size,1,none⟩=some (.slice B1 f.anL.length d1):=(jI.out.cell 1)
 have y2:W3.cell? ⟨w3.heap.size,2,none⟩=some (.slice B2 f.chars.length d2):=(jI.out.cell 2)
 have y3:W3.cell? ⟨w3.heap.size,3,none⟩=some (.slice B3 f.anM.length d3):=(jI.out.cell 3)
 have y4:W3.cell? ⟨w3.heap.size,4,none⟩=some (.slice B4 f.features.length d4):=(jI.out.cell 4)
 have y5:W3.cell? ⟨w3.heap.size,5,none⟩=some (.slice B5 f.anR.length d5):=(jI.out.cell 5)
 have y6:W3.cell? ⟨w3.heap.size,6,none⟩=some (.slice B6 f.regions.length d6):=(jI.out.cell 6)
 have y7:W3.cell? ⟨w3.heap.size,7,none⟩=some (.slice B7 f.funcs.length d7):=(jI.out.cell 7)
 have y8:W3.cell? ⟨w3.heap.size,8,none⟩=some (.slice B8 f.cvt.length d8):=(jI.out.cell 8)
 have hl:=YD HM.out.right HM.out.small.cap;have hsm:=Us W3 f f _ _ (HF.out.apX (Ls.out.trans (jw.out.mono Ls.out.size))) (HGL.out.aqh (aiS.out)) hl hl;simp only[beq_self_eq_true] at hsm;have HSM:=hd0 hsm;have agb:Hid (Below w.heap.size w W3):=ako;clear hsm hl hb3 lm agt ab2 aah HP;go_wp2_with fail
 clear hW3;refine HSM.out.mono ?_;rintro e w5 ⟨rfl,hb5⟩;go_wp2_with fail
 go_ret
 exact⟨rfl,agb.out.trans (hb5.mono agb.out.size)⟩
end
section
open Go.ChangeShapes Go.WideShapes Go.ChangeAt Go.RowKit
open Go.ChangeMaps (open_string shut_string)
set_option linter.unusedVariables false
theorem MH:ownKnob Tryz.prog.godebug=none:=by kernel_rfl
theorem Eg:laidOutB Tryz.prog=true:=by kernel_rfl
theorem EE (os:Os)(started:os.Started)(H:Type)(enc:TypeId×Value->H):
  ReturnsInHanded {} Tryz.checked os 5 .any (fun w args=>(Rows.parseBackSpec.pre enc Tryz.prog Tryz.f5 Rows.parseBackRow.domain false w args/\laidMetH Tryz.prog Rows.parseBackRow.laid w)/\sizedMet enc Tryz.prog Tryz.f5 (OpenSpec.ofChange Rows.parseBackSpec) false w args)
   (Rows.parseBackSpec.post enc Tryz.prog Tryz.f5 false true false false):=by
 refine returnsInHanded_of_change_and (C:=Tryz.checked) (X:=fun w _=>laidMetH Tryz.prog Rows.parseBackRow.laid w) (fun _ _ _ hh h=>h.of_heap hh) MH started (by kernel_rfl) Tryz.func5
  (ChangeSpec.witness_shaped (enc:=enc) (C:=Tryz.checked) (os:=os) (X:=fun w _=>laidMetH Tryz.prog Rows.parseBackRow.laid w) false (World.laidAll Tryz.prog os Rows.parseBackRow.laid) #[.slice none 0 0] 8 (World.laidAll_os _ _ _)
   (World.shaped_of_ZipB (by kernel_rfl) (by kernel_rfl)) (by kernel_rfl) (by kernel_rfl) (by kernel_rfl)
   (by rw[MakeChecks.laidMetH_plain _ _ _ (by kernel_rfl)];exact laidMet_laidAll _ (by kernel_rfl) (by kernel_rfl))) ?_
 intro W base args ds gs before hval0 hW hcnd _ hL _;have hval:∀(j:Nat) t v,Tryz.f5.params[j]? =some t->args[j]? =some v->Value.okWide Tryz.prog W .any base t v:=hval0;have hW':=hW;obtain⟨p,q,hA0,hV,rfl,hfz,hnd⟩:=hW;have hA:DataW.TrodAll enc Tryz.prog W 0 (fun _=>true) true Tryz.f5.params.toList args.toList ds p:=hA0;rw[Tryz.params5] at hA hval;obtain⟨v0,vs0,d0,ds0,p0,q0,hargs,rfl,rfl,h0,r0⟩:=trodAll_cons hA;obtain⟨rfl,rfl,rfl⟩:=trodAll_nil r0;obtain rfl:args= #[v0]:=by cases args;simp_all
 obtain⟨rfl,rfl⟩:=trodVars_none hV;have k0:=h0;have Za:∀x∈p0,x.block<W.heap.size:=by obtain⟨m,hm⟩:=k0;exact DataW.trod_lt m _ _ _ hm
 obtain⟨A0,n0,c0,zs0,rfl,hc0,hm0,hr0,hi0⟩:=Df (hval 0 22 v0 rfl rfl) h0;clear hA0 hval0;have hL':laidMetH Tryz.prog Rows.parseBackRow.laid W:=hL;rw[MakeChecks.laidMetH_plain _ _ _ (by kernel_rfl)] at hL';obtain⟨fF,ng⟩:=zO hL' (by simp[Rows.parseBackRow]) (by simp[Rows.parseBackRow]) (by simp[Rows.parseBackRow]);refine(NK W A0 n0 c0 zs0 hc0 hr0 hi0 fF ng).mono fun e W' ⟨he,bel⟩=> ?_
 subst he;exact⟨_,rfl,_,_,_,[],_,[],hW',trodAll_mk1 (shut_bool Tryz.underlying4 _),(trodAll_cons_mk (Below.trod Eg (by kernel_rfl) (of_decide_eq_true (by kernel_rfl)) k0 bel Za) trodAll_mk0),rfl,bel.frame _,fun h=>by cases h⟩
end
end Go.Proofs.YtkijckccfookeaaGreatDoor
