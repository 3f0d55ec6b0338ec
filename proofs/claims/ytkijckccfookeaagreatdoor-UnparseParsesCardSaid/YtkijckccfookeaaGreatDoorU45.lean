/- A row's beginning, 'l[:k]'. -/
import Derived.Test.YtkijckccfookeaaGreatDoorMkM
import Derived.Test.YtkijckccfookeaaGreatDoorPrF
import Derived.Test.YtkijckccfookeaaGreatDoorCards
import Derived.Test.YtkijckccfookeaaGreatDoorTie
import Derived.LaidMore
import Derived.Lay
set_option linter.unusedVariables false
set_option linter.unusedSimpArgs false
set_option maxRecDepth 100000
set_option maxHeartbeats 32000000
namespace Go.Proofs.YtkijckccfookeaaGreatDoor
section
open Go.RowKit
theorem abt {T E size:Nat}(hT:Tryz.prog.underlying T=some (.slice E))(hs:∀w,(sizeOf E).run Tryz.prog w= .ok size w)(A:Option Addr)(n c k:Nat)(z:Int)(hz:z=(k:Int))(hk:k<=c)(w:World):
  (Instr.slice T (.slice A n c) none (some (.int .i64 z)) none).run Tryz.prog w= .ok (.slice (if c=0 then A else A.map (·.add 0)) k c) w:=by
 subst hz;simp[Instr.slice,Instr.sliceBounds,Instr.sliceBound,asIntOf,run_underlying hT,hs,Result.andThen,hk]
theorem Rd.pre {w:World}{B:Nat}{A:Option Addr}{n c k:Nat}{zs:List Int}(h:Rd w B A n 1 (aH zs))(hk:k<=n)(hc:n<=c):Rd w B (if c=0 then A else A.map (·.add 0)) k 1 (aH (zs.take k)):=by
 have hl:=h.1;simp only[aH,anB] at hl;refine⟨by simp only[aH,anB,anQ];omega,fun h0=> ?_⟩;obtain⟨b,o,rfl,hb,hr⟩:=h.2 (by omega);rw[if_neg (by omega)];refine⟨b,o,rfl,hb,fun j u hu=>hr j u ?_⟩;simp only[aH,List.map_take,anY] at hu;split at hu
 ·exact hu
 cases hu
attribute [-go_sem] storeVar
theorem KZ {W:World}{g:Nat}{cs:Array Value}{tmps:Array Value}(hb:W.heap[g]? =some (.cells cs oU (0,0)))(hsz:cs.size=9)(h2:tmps.getD 2 undef= .pointer (some ⟨g,0,none⟩):=by rfl):(results Tryz.f15 tmps).run Tryz.prog W= .ok (.agg cs) W:=by rw[ql (fn:=Tryz.f15) (p:=2) (ty:=oU) rfl,h2];have:=run_loadVar_row (P:=Tryz.prog) W g oU oU cs (0,0) _ hb Tryz.underlying32 rfl (by rw[Ie,hsz]);simp[asAddr,Result.andThen,this]
theorem ZF (w:World)(A:Option Addr)(n c:Nat)(zs:List Int)(hc:n<=c)(hr:Rd w w.heap.size A n 1 (aH zs))(hz:∀z∈zs,I64 z):Calls Tryz.prog 15 #[.slice A n c] w (zi w):=by
 have hs:=abt (size:=1) (T:=22) (E:=3) Tryz.underlying22 (by intro w;kernel_rfl) A n c (min n 300) (min (n:Int) 300) (by omega) (by omega);have hrp:=hd0 (hr.pre (c:=c) (Nat.min_le_left n 300) hc);have hzp:=hd0 (fun z (h:z∈zs.take (min n 300))=>hz z (List.mem_of_mem_take h));clear hr hz;obtain⟨A',hA⟩:∃A',(if c=0 then A else A.map (·.add 0))=A':=⟨_,rfl⟩
 rw[hA] at hs hrp;clear hA;go_enter Tryz.func15,Tryz.ntmps15
 go_wp2_with fail
 obtain⟨W1,hW1⟩:∃W1,w.alloc (.cells zeroFn oU)=W1:=⟨_,rfl⟩
 change Calls _ _ _ (w.alloc (.cells zeroFn oU)) _;rw[hW1];have hb1:Below w.heap.size w W1:=by rw[<-hW1];exact(ant _ _).alloc (af _) _
 have hk1:Bk W1 w.heap.size oU zeroFn:=by rw[<-hW1];exact Bk.new _ _ _
 have hz1:w.heap.size<W1.heap.size:=hk1.lt;clear hW1;have adi:Rd W1 W1.heap.size A' (min n 300) 1 (aH (zs.take (min n 300))):=(hrp.out.below hb1 (af _)).mono hb1.size;refine(V8 W1 A' (min n 300) c (zs.take (min n 300)) adi hzp.out (by omega)).mono ?_;rintro e w' ⟨f,fc,h1,rfl,h2,h3⟩;have H1:=hd0 h1;have JR:Bk w' w.heap.size oU zeroFn:=(h3.block _ hz1).trans hk1;have hsz:fc.length=9:=by obtain⟨A1,c1,A2,c2,A3,c3,A4,c4,A5,c5,A6,c6,A7,c7,A8,c8,rfl,-⟩:=h2;rfl
 have hone:(fc.toArray.all fun x=>x.oneCell')=true:=by obtain⟨A1,c1,A2,c2,A3,c3,A4,c4,A5,c5,A6,c6,A7,c7,A8,c8,rfl,-⟩:=h2;simp[Value.oneCell']
 have hst:=run_storeVar_row (P:=Tryz.prog) w' w.heap.size oU oU zeroFn fc.toArray JR (by rw[Ie,List.size_toArray,hsz]) (by simp[zeroFn,hsz]) hone;have Rq:=setRow_heap w' w.heap.size zeroFn fc.toArray oU (0,0) JR;have heq:∀b,b≠w.heap.size->(w'.setRow w.heap.size fc.toArray).heap[b]? =w'.heap[b]? :=fun b hb=>setRow_other w' w.heap.size b _ hb
 have hne:∀b,Tf w' b->b≠w.heap.size:=by rintro b ⟨cs,t,hk,ht⟩ rfl;have:=(bU hk JR).1;subst this;exact absurd ht (by decide)
 have hfE:aln (w'.setRow w.heap.size fc.toArray) (Tf (w'.setRow w.heap.size fc.toArray)) fc f:=aln.ok.mono (aln.ok.keep h2 (fun b hb=>heq b (hne b hb))) (fun b hb=>by
  obtain⟨cs,t,hk,ht⟩:=hb;exact⟨cs,t,(heq b (hne b ⟨cs,t,hk,ht⟩)).trans hk,ht⟩)
 have hbw:Below w.heap.size w (w'.setRow w.heap.size fc.toArray):=(hb1.trans (h3.mono (by omega))).trans ⟨rfl,rfl,rfl,by simp,fun b hb=>heq b (by omega)⟩;generalize w'.setRow w.heap.size fc.toArray=wE at*
 have Ib:Hid (zi w (.returned (.agg fc.toArray)) wE):=hd0 ⟨f,fc,H1.out,rfl,hfE,hbw⟩;have HBE:=hd0 Rq;have Ws:Hid (fc.toArray.size=9):=hd0 (by simpa using hsz);clear Rq hbw hfE hne heq h1 h2 h3 JR hone adi hk1 hb1 hs hsz;go_wp2_with fail
 exact bodyPost_ret (KZ HBE.out Ws.out) rfl Ib.out
end
section
open Go.RowKit
theorem Tf.ft {w:World}:∀b,Tf w b->FT w b:=fun _ ⟨_,t,h1,h2⟩=>by
 have key:∀t∈tsF,t≠5/\t≠130:=by decide
 exact GL h1 (key t h2).1 (key t h2).2
theorem Tv (w:World)(f:Fnt)(fc:List Value)(hT:Tabs w)(hG:nG<=w.heap.size)(hf:aln w (FT w) fc f)(hS:∀g∈f.akJ,g.points.length<=1000000000/\g.ends.length<=1000000000)(hL:(lJ f).length<=1000000000):
  Calls Tryz.prog 20 #[.agg fc.toArray] w fun e w'=>e= .returned (.string ⟨(lJ f).toArray⟩)/\Below w.heap.size w w':=by
 obtain⟨A1,c1,A2,c2,A3,c3,A4,c4,A5,c5,A6,c6,A7,c7,A8,c8,rfl,r0,s1,s2,s3,s4,s5,s6,s7,s8⟩:=hf;exact Jz w f A1 A2 A3 A4 A5 A6 A7 A8 c1 c2 c3 c4 c5 c6 c7 c8 hT hG r0 s1 s2 s3 s4 s5 s6 s7 s8 hS hL
theorem WQ (w:World)(f:Fnt)(fc:List Value)(hT:Tabs w)(hG:nG<=w.heap.size)(hf:aln w (Tf w) fc f)(hm:amj f):
  Calls Tryz.prog 20 #[.agg fc.toArray] w fun e w'=>e= .returned (.string ⟨(lJ f).toArray⟩)/\Below w.heap.size w w':=
 Tv w f fc hT hG (aln.ok.mono hf Tf.ft) (fun g hg=>by
  have:=hm.small.akJ.2 g hg;exact⟨by have:=this.pts;omega,by have:=this.ends;omega⟩) (nt (L8 hm.right hm.small) (by decide))
theorem aln.ann {w w':World}{fc:List Value}{f:Fnt}(h:aln w (Tf w) fc f)(hb:Below w.heap.size w w'):aln w' (Lw w') fc f:=aln.ok.mono (aln.ok.keep h (fun b hb'=>hb.block b (Tf.lt b hb'))) (fun b hb'=>anD (Tf.lt b hb') hb.size)
theorem aln.tf {w w':World}{fc:List Value}{f:Fnt}(h:aln w (Tf w) fc f)(hb:Below w.heap.size w w'):aln w' (Tf w') fc f:=
 aln.ok.mono (aln.ok.keep h (fun b hb'=>hb.block b (Tf.lt b hb'))) (fun b hb'=>by
  obtain⟨cs,t,hk,ht⟩:=hb';exact⟨cs,t,(hb.block b hk.lt).trans hk,ht⟩)
theorem Dt.lt' {w:World}:∀b,Dt w b->b<w.heap.size:=fun _ ⟨_,_,h,_⟩=>h.lt
theorem aln.ano {w w':World}{fc:List Value}{f:Fnt}(h:aln w (Dt w) fc f)(hb:Below w.heap.size w w'):aln w' (Lw w') fc f:=aln.ok.mono (aln.ok.keep h (fun b hb'=>hb.block b (Dt.lt' b hb'))) (fun b hb'=>anD (Dt.lt' b hb') hb.size)
theorem Ew (w:World)(A:Option Addr)(n c:Nat)(zs:List Int)(hc:n<=c)(hr:Rd w w.heap.size A n 1 (aH zs))(hz:∀z∈zs,I64 z)(hT:Tabs w)(hG:nG<=w.heap.size)(jH:ali w)(Bj:nT<=w.heap.size):
  Calls Tryz.prog 13 #[.slice A n c] w fun e w'=>e= .returned (.bool true)/\Below w.heap.size w w':=by
 have hmk:=hd0 (ZF w A n c zs hc hr hz);have HT:=hd0 hT;have HTB:=hd0 jH;clear hr hz hT jH;go_enter Tryz.func13,Tryz.ntmps13
 go_wp2_with fail
 refine hmk.out.mono ?_;rintro e w1 ⟨f,fc,hm,rfl,hf,hb1'⟩;have hb1:Below w.heap.size w w1:=hb1';have HB1:=hd0 hb1;have HM:=hd0 hm;have HF:=hd0 hf;have hz1:=hb1.size;obtain⟨A1,c1,A2,c2,A3,c3,A4,c4,A5,c5,A6,c6,A7,c7,A8,c8,rfl,-⟩:=hf;clear hb1 hb1' hm hmk;obtain⟨W1,hW1⟩:∃W1,w1.alloc (.cells #[.int .i64 f.unit,.slice A1 f.akJ.length c1,.slice A2 f.chars.length c2,.slice A3 f.akK.length c3,.slice A4 f.features.length c4,.slice A5 f.akP.length c5,.slice A6 f.regions.length c6,.slice A7 f.funcs.length c7,.slice A8 f.cvt.length c8] 32)=W1:=⟨_,rfl⟩
 have hbW:Below w1.heap.size w1 W1:=by rw[<-hW1];exact(ant _ _).alloc (af _) _
 have hkW:Bk W1 w1.heap.size 32 #[.int .i64 f.unit,.slice A1 f.akJ.length c1,.slice A2 f.chars.length c2,.slice A3 f.akK.length c3,.slice A4 f.features.length c4,.slice A5 f.akP.length c5,.slice A6 f.regions.length c6,.slice A7 f.funcs.length c7,.slice A8 f.cvt.length c8]:=by rw[<-hW1];exact Bk.new _ _ _
 have tC:=hd0 hkW;have J5:=hd0 hbW;have zf:=hkW.lt;have UL:=HB1.out.trans (hbW.mono hz1);have Vo:=hd0 UL;have HU:=hd0 (WQ W1 f _ (HT.out.all UL) (nt hG UL.size) (HF.out.tf hbW) HM.out);clear hkW hbW UL;have a0:W1.cell? ⟨w1.heap.size,0,none⟩=some (.int .i64 f.unit):=tC.out.cell 0;have a1:W1.cell? ⟨w1.heap.size,1,none⟩=some (.slice A1 f.akJ.length c1):=tC.out.cell 1;have a2:W1.cell? ⟨w1.heap.size,2,none⟩=some (.slice A2 f.chars.length c2):=tC.out.cell 2;have a3:W1.cell? ⟨w1.heap.size,3,none⟩=some (.slice A3 f.akK.length c3):=tC.out.cell 3;have a4:W1.cell? ⟨w1.heap.size,4,none⟩=some (.slice A4 f.features.length c4):=tC.out.cell 4;have a5:W1.cell? ⟨w1.heap.size,5,none⟩=some (.slice A5 f.akP.length c5):=tC.out.cell 5;have a6:W1.cell? ⟨w1.heap.size,6,none⟩=some (.slice A6 f.regions.length c6):=tC.out.cell 6;have a7:W1.cell? ⟨w1.heap.size,7,none⟩=some (.slice A7 f.funcs.length c7):=tC.out.cell 7;have a8:W1.cell? ⟨w1.heap.size,8,none⟩=some (.slice A8 f.cvt.length c8):=tC.out.cell 8;go_wp2_with fail
 clear hW1 a0 a1 a2 a3 a4 a5 a6 a7 a8;refine HU.out.mono ?_;rintro e w2 ⟨rfl,hb2⟩;have UO:=Vo.out.trans (hb2.mono Vo.out.size);have hp:=Nr w2 (lJ f) (nt (L8 HM.out.right HM.out.small) (by decide)) (HTB.out.below UO) (nt Bj UO.size);rw[Vw HM.out.right] at hp;have HP:=hd0 hp;have HB2:=hd0 hb2;have ajs:=hd0 UO;clear hp hb2 UO HU;generalize lJ f=S at*
 go_wp2_with fail
 refine HP.out.mono ?_;rintro e w3 ⟨hb3,gc,rfl,hg⟩;have HGL:=hd0 hg;obtain⟨B1,d1,B2,d2,B3,d3,B4,d4,B5,d5,B6,d6,B7,d7,B8,d8,rfl,-⟩:=hg;obtain⟨W3,hW3⟩:∃W3,w3.alloc (.cells #[.int .i64 f.unit,.slice B1 f.akJ.length d1,.slice B2 f.chars.length d2,.slice B3 f.akK.length d3,.slice B4 f.features.length d4,.slice B5 f.akP.length d5,.slice B6 f.regions.length d6,.slice B7 f.funcs.length d7,.slice B8 f.cvt.length d8] 32)=W3:=⟨_,rfl⟩
 have Zv:Below w3.heap.size w3 W3:=by rw[<-hW3];exact(ant _ _).alloc (af _) _
 have aaz:Bk W3 w3.heap.size 32 #[.int .i64 f.unit,.slice B1 f.akJ.length d1,.slice B2 f.chars.length d2,.slice B3 f.akK.length d3,.slice B4 f.features.length d4,.slice B5 f.akP.length d5,.slice B6 f.regions.length d6,.slice B7 f.funcs.length d7,.slice B8 f.cvt.length d8]:=by rw[<-hW3];exact Bk.new _ _ _
 have yl:Below W1.heap.size W1 W3:=(HB2.out.trans (hb3.mono HB2.out.size)).trans (Zv.mono (nt HB2.out.size hb3.size));have SV:=Vo.out.trans (yl.mono Vo.out.size);have jk:=hd0 yl;have aeV:=hd0 SV;have aeZ:=hd0 Zv;have jX:=hd0 aaz;have zg:=aaz.lt;have zw:=yl.size;have hpr:=hd0 (UJ W3 (HT.out.all SV) (nt hG SV.size));clear hb3 yl SV Zv aaz HP;go_wp2_with fail
 clear hW3;refine hpr.out.mono ?_;rintro e w4 ⟨rfl,hb4⟩;have HB4:=hd0 hb4;clear hb4 hpr;have x0:w4.cell? ⟨w1.heap.size,0,none⟩=some (.int .i64 f.unit):=((aj HB4.out).1 _ _ (by omega)).trans (((aj jk.out).1 _ _ zf).trans (tC.out.cell 0));have x1:w4.cell? ⟨w1.heap.size,1,none⟩=some (.slice A1 f.akJ.length c1):=((aj HB4.out).1 _ _ (by omega)).trans (((aj jk.out).1 _ _ zf).trans (tC.out.cell 1));have x2:w4.cell? ⟨w1.heap.size,2,none⟩=some (.slice A2 f.chars.length c2):=((aj HB4.out).1 _ _ (by omega)).trans (((aj jk.out).1 _ _ zf).trans (tC.out.cell 2));have x3:w4.cell? ⟨w1.heap.size,3,none⟩=some (.slice A3 f.akK.length c3):=((aj HB4.out).1 _ _ (by omega)).trans (((aj jk.out).1 _ _ zf).trans (tC.out.cell 3));have x4:w4.cell? ⟨w1.heap.size,4,none⟩=some (.slice A4 f.features.length c4):=((aj HB4.out).1 _ _ (by omega)).trans (((aj jk.out).1 _ _ zf).trans (tC.out.cell 4));have x5:w4.cell? ⟨w1.heap.size,5,none⟩=some (.slice A5 f.akP.length c5):=((aj HB4.out).1 _ _ (by omega)).trans (((aj jk.out).1 _ _ zf).trans (tC.out.cell 5));have x6:w4.cell? ⟨w1.heap.size,6,none⟩=some (.slice A6 f.regions.length c6):=((aj HB4.out).1 _ _ (by omega)).trans (((aj jk.out).1 _ _ zf).trans (tC.out.cell 6));have x7:w4.cell? ⟨w1.heap.size,7,none⟩=some (.slice A7 f.funcs.length c7):=((aj HB4.out).1 _ _ (by omega)).trans (((aj jk.out).1 _ _ zf).trans (tC.out.cell 7));have x8:w4.cell? ⟨w1.heap.size,8,none⟩=some (.slice A8 f.cvt.length c8):=((aj HB4.out).1 _ _ (by omega)).trans (((aj jk.out).1 _ _ zf).trans (tC.out.cell 8));have y0:w4.cell? ⟨w3.heap.size,0,none⟩=some (.int .i64 f.unit):=((aj HB4.out).1 _ _ zg).trans (jX.out.cell 0);have y1:w4.cell? ⟨w3.heap.size,1,none⟩=some (.slice B1 f.akJ.length d1):=((aj HB4.out).1 _ _ zg).trans (jX.out.cell 1);have y2:w4.cell? ⟨w3.heap.size,2,none⟩=some (.slice B2 f.chars.length d2):=((aj HB4.out).1 _ _ zg).trans (jX.out.cell 2);have y3:w4.cell? ⟨w3.heap.size,3,none⟩=some (.slice B3 f.akK.length d3):=((aj HB4.out).1 _ _ zg).trans (jX.out.cell 3);have y4:w4.cell? ⟨w3.heap.size,4,none⟩=some (.slice B4 f.features.length d4):=((aj HB4.out).1 _ _ zg).trans (jX.out.cell 4);have y5:w4.cell? ⟨w3.heap.size,5,none⟩=some (.slice B5 f.akP.length d5):=((aj HB4.out).1 _ _ zg).trans (jX.out.cell 5);have y6:w4.cell? ⟨w3.heap.size,6,none⟩=some (.slice B6 f.regions.length d6):=((aj HB4.out).1 _ _ zg).trans (jX.out.cell 6);have y7:w4.cell? ⟨w3.heap.size,7,none⟩=some (.slice B7 f.funcs.length d7):=((aj HB4.out).1 _ _ zg).trans (jX.out.cell 7);have y8:w4.cell? ⟨w3.heap.size,8,none⟩=some (.slice B8 f.cvt.length d8):=((aj HB4.out).1 _ _ zg).trans (jX.out.cell 8);have hl:=WO HM.out.right HM.out.small.cap;have hsm:=abx w4 f f _ _ (HF.out.ann (J5.out.trans ((jk.out.trans (HB4.out.mono jk.out.size)).mono J5.out.size))) (HGL.out.ano (aeZ.out.trans (HB4.out.mono aeZ.out.size))) hl hl;simp only[beq_self_eq_true] at hsm;have HSM:=hd0 hsm;have aeX:Hid (Below w.heap.size w w4):=hd0 (aeV.out.trans (HB4.out.mono aeV.out.size));clear hsm hl;go_wp2_with fail
 refine HSM.out.mono ?_;rintro e w5 ⟨rfl,hb5⟩;go_wp2_with fail
 go_ret
 exact⟨rfl,aeX.out.trans (hb5.mono aeX.out.size)⟩
end
section
open Go.ChangeShapes Go.WideShapes Go.ChangeAt Go.RowKit
open Go.ChangeMaps (open_string shut_string)
set_option linter.unusedVariables false
theorem D8:ownKnob Tryz.prog.godebug=none:=by kernel_rfl
theorem yR:laidOutB Tryz.prog=true:=by kernel_rfl
theorem zT (os:Os)(started:os.Started)(H:Type)(enc:TypeId×Value->H):
  ReturnsInHanded {} Tryz.checked os 13 .any (fun w args=>(Rows.unparseParsesSpec.pre enc Tryz.prog Tryz.f13 Rows.unparseParsesRow.domain false w args/\laidMetH Tryz.prog Rows.unparseParsesRow.laid w)/\sizedMet enc Tryz.prog Tryz.f13 (OpenSpec.ofChange Rows.unparseParsesSpec) false w args)
   (Rows.unparseParsesSpec.post enc Tryz.prog Tryz.f13 false true false false):=by
 refine returnsInHanded_of_change_and (C:=Tryz.checked) (X:=fun w _=>laidMetH Tryz.prog Rows.unparseParsesRow.laid w) (fun _ _ _ hh h=>h.of_heap hh) D8 started (by kernel_rfl) Tryz.func13
  (ChangeSpec.witness_shaped (enc:=enc) (C:=Tryz.checked) (os:=os) (X:=fun w _=>laidMetH Tryz.prog Rows.unparseParsesRow.laid w) false (World.laidAll Tryz.prog os Rows.unparseParsesRow.laid) #[.slice none 0 0] 8 (World.laidAll_os _ _ _)
   (World.shaped_of_ZipB (by kernel_rfl) (by kernel_rfl)) (by kernel_rfl) (by kernel_rfl) (by kernel_rfl)
   (by rw[MakeChecks.laidMetH_plain _ _ _ (by kernel_rfl)];exact laidMet_laidAll _ (by kernel_rfl) (by kernel_rfl))) ?_
 intro W base args ds gs before hval0 hW hcnd _ hL _;have hval:∀(j:Nat) t v,Tryz.f13.params[j]? =some t->args[j]? =some v->Value.okWide Tryz.prog W .any base t v:=hval0;have hW':=hW;obtain⟨p,q,hA0,hV,rfl,hfz,hnd⟩:=hW;have hA:DataW.TrodAll enc Tryz.prog W 0 (fun _=>true) true Tryz.f13.params.toList args.toList ds p:=hA0;rw[Tryz.params13] at hA hval;obtain⟨v0,vs0,d0,ds0,p0,q0,hargs,rfl,rfl,h0,r0⟩:=trodAll_cons hA;obtain⟨rfl,rfl,rfl⟩:=trodAll_nil r0;obtain rfl:args= #[v0]:=by cases args;simp_all
 obtain⟨rfl,rfl⟩:=trodVars_none hV;have k0:=h0;have lt0:∀x∈p0,x.block<W.heap.size:=by obtain⟨m,hm⟩:=k0;exact DataW.trod_lt m _ _ _ hm
 obtain⟨A0,n0,c0,zs0,rfl,hc0,hm0,hr0,hi0⟩:=Yf (hval 0 22 v0 rfl rfl) h0;clear hA0 hval0;have hL':laidMetH Tryz.prog Rows.unparseParsesRow.laid W:=hL;rw[MakeChecks.laidMetH_plain _ _ _ (by kernel_rfl)] at hL';obtain⟨jH,Bj⟩:=UN hL' (by simp[Rows.unparseParsesRow]) (by simp[Rows.unparseParsesRow]) (by simp[Rows.unparseParsesRow]);refine(Ew W A0 n0 c0 zs0 hc0 hr0 hi0 (Wu hL' (by simp[Rows.unparseParsesRow]) (by simp[Rows.unparseParsesRow]) (by simp[Rows.unparseParsesRow]) (by simp[Rows.unparseParsesRow])) (V5 hL' (by simp[Rows.unparseParsesRow])) jH Bj).mono fun e W' ⟨he,bel⟩=> ?_
 subst he;exact⟨_,rfl,_,_,_,[],_,[],hW',trodAll_mk1 (shut_bool Tryz.underlying4 _),(trodAll_cons_mk (Below.trod yR (by kernel_rfl) (of_decide_eq_true (by kernel_rfl)) k0 bel lt0) trodAll_mk0),rfl,bel.frame _,fun h=>by cases h⟩
end
end Go.Proofs.YtkijckccfookeaaGreatDoor
