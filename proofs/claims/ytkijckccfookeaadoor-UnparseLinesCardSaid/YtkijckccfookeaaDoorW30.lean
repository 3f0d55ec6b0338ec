/- A row's beginning, 'l[:k]'. -/
import Derived.Test.YtkijckccfookeaaDoorMkM
import Derived.Test.YtkijckccfookeaaDoorCards
import Derived.Test.YtkijckccfookeaaDoorTie
import Derived.LaidMore
import Derived.Lay
set_option linter.unusedVariables false
set_option linter.unusedSimpArgs false
set_option maxRecDepth 100000
set_option maxHeartbeats 32000000
namespace Go.Proofs.YtkijckccfookeaaDoor
section
open Go.RowKit
theorem LD {T E size:Nat}(hT:Tryd.prog.underlying T=some (.slice E))(hs:∀w,(sizeOf E).run Tryd.prog w= .ok size w)(A:Option Addr)(n c k:Nat)(z:Int)(hz:z=(k:Int))(hk:k<=c)(w:World):
  (Instr.slice T (.slice A n c) none (some (.int .i64 z)) none).run Tryd.prog w= .ok (.slice (if c=0 then A else A.map (·.add 0)) k c) w:=by
 subst hz;simp[Instr.slice,Instr.sliceBounds,Instr.sliceBound,asIntOf,run_underlying hT,hs,Result.andThen,hk]
theorem Rd.pre {w:World}{B:Nat}{A:Option Addr}{n c k:Nat}{zs:List Int}(h:Rd w B A n 1 (aI zs))(hk:k<=n)(hc:n<=c):Rd w B (if c=0 then A else A.map (·.add 0)) k 1 (aI (zs.take k)):=by
 have hl:=h.1;simp only[aI,aa7] at hl;refine⟨by simp only[aI,aa7,abl];omega,fun h0=> ?_⟩;obtain⟨b,o,rfl,hb,hr⟩:=h.2 (by omega);rw[if_neg (by omega)];refine⟨b,o,rfl,hb,fun j u hu=>hr j u ?_⟩;simp only[aI,List.map_take,abu] at hu;split at hu
 ·exact hu
 cases hu
attribute [-go_sem] storeVar
theorem xA {W:World}{g:Nat}{cs:Array Value}{tmps:Array Value}(hb:W.heap[g]? =some (.cells cs iM (0,0)))(hsz:cs.size=9)(h2:tmps.getD 2 undef= .pointer (some ⟨g,0,none⟩):=by rfl):(results Tryd.f6 tmps).run Tryd.prog W= .ok (.agg cs) W:=by rw[iY (fn:=Tryd.f6) (p:=2) (ty:=iM) rfl,h2];have:=run_loadVar_row (P:=Tryd.prog) W g iM iM cs (0,0) _ hb Tryd.underlying32 rfl (by rw[uD,hsz]);simp[asAddr,Result.andThen,this]
theorem IU (w:World)(A:Option Addr)(n c:Nat)(zs:List Int)(hc:n<=c)(hr:Rd w w.heap.size A n 1 (aI zs))(hz:∀z∈zs,I64 z):Calls Tryd.prog 6 #[.slice A n c] w (oG w):=by
 have hs:=LD (size:=1) (T:=22) (E:=3) Tryd.underlying22 (by intro w;kernel_rfl) A n c (min n 300) (min (n:Int) 300) (by omega) (by omega);have TC:=hd0 (hr.pre (c:=c) (Nat.min_le_left n 300) hc);have hzp:=hd0 (fun z (h:z∈zs.take (min n 300))=>hz z (List.mem_of_mem_take h));clear hr hz;obtain⟨A',hA⟩:∃A',(if c=0 then A else A.map (·.add 0))=A':=⟨_,rfl⟩
 rw[hA] at hs TC;clear hA;go_enter Tryd.func6,Tryd.ntmps6
 go_wp2_with fail
 obtain⟨W1,hW1⟩:∃W1,w.alloc (.cells zeroFn iM)=W1:=⟨_,rfl⟩
 change Calls _ _ _ (w.alloc (.cells zeroFn iM)) _;rw[hW1];have hb1:Below w.heap.size w W1:=by rw[<-hW1];exact(aa0 _ _).alloc (ag _) _
 have hk1:Bk W1 w.heap.size iM zeroFn:=by rw[<-hW1];exact Bk.new _ _ _
 have hz1:w.heap.size<W1.heap.size:=hk1.lt;clear hW1;have Pq:Rd W1 W1.heap.size A' (min n 300) 1 (aI (zs.take (min n 300))):=(TC.out.below hb1 (ag _)).mono hb1.size;refine(Fb W1 A' (min n 300) c (zs.take (min n 300)) Pq hzp.out (by omega)).mono ?_;rintro e w' ⟨f,fc,h1,rfl,h2,h3⟩;have H1:=hd0 h1;have xw:Bk w' w.heap.size iM zeroFn:=(h3.block _ hz1).trans hk1;have hsz:fc.length=9:=by obtain⟨A1,c1,A2,c2,A3,c3,A4,c4,A5,c5,A6,c6,A7,c7,A8,c8,rfl,-⟩:=h2;rfl
 have hone:(fc.toArray.all fun x=>x.oneCell')=true:=by obtain⟨A1,c1,A2,c2,A3,c3,A4,c4,A5,c5,A6,c6,A7,c7,A8,c8,rfl,-⟩:=h2;simp[Value.oneCell']
 have hst:=run_storeVar_row (P:=Tryd.prog) w' w.heap.size iM iM zeroFn fc.toArray xw (by rw[uD,List.size_toArray,hsz]) (by simp[zeroFn,hsz]) hone;have AL:=setRow_heap w' w.heap.size zeroFn fc.toArray iM (0,0) xw;have heq:∀b,b≠w.heap.size->(w'.setRow w.heap.size fc.toArray).heap[b]? =w'.heap[b]? :=fun b hb=>setRow_other w' w.heap.size b _ hb
 have hne:∀b,Tf w' b->b≠w.heap.size:=by rintro b ⟨cs,t,hk,ht⟩ rfl;have:=(iT hk xw).1;subst this;exact absurd ht (by decide)
 have SK:aab (w'.setRow w.heap.size fc.toArray) (Tf (w'.setRow w.heap.size fc.toArray)) fc f:=aab.ok.mono (aab.ok.keep h2 (fun b hb=>heq b (hne b hb))) (fun b hb=>by
  obtain⟨cs,t,hk,ht⟩:=hb;exact⟨cs,t,(heq b (hne b ⟨cs,t,hk,ht⟩)).trans hk,ht⟩)
 have hbw:Below w.heap.size w (w'.setRow w.heap.size fc.toArray):=(hb1.trans (h3.mono (by omega))).trans ⟨rfl,rfl,rfl,by simp,fun b hb=>heq b (by omega)⟩;generalize w'.setRow w.heap.size fc.toArray=wE at*
 have uo:Hid (oG w (.returned (.agg fc.toArray)) wE):=hd0 ⟨f,fc,H1.out,rfl,SK,hbw⟩;have Bc:=hd0 AL;have WN:Hid (fc.toArray.size=9):=hd0 (by simpa using hsz);clear AL hbw SK hne heq h1 h2 h3 xw hone Pq hk1 hb1 hs hsz;go_wp2_with fail
 exact bodyPost_ret (xA Bc.out WN.out) rfl uo.out
end
section
open Go.RowKit
theorem Tf.ft {w:World}:∀b,Tf w b->FT w b:=fun _ ⟨_,t,h1,h2⟩=>by
 have key:∀t∈PX,t≠5/\t≠96:=by decide
 exact tN h1 (key t h2).1 (key t h2).2
theorem EQ (w:World)(f:Fnt)(fc:List Value)(hT:Tabs w)(hG:nG<=w.heap.size)(hf:aab w (Tf w) fc f)(hm:aaD f):
  Calls Tryd.prog 8 #[.agg fc.toArray] w fun e w'=>e= .returned (.string ⟨(fC f).toArray⟩)/\Below w.heap.size w w':=
 CP w f fc hT hG (aab.ok.mono hf Tf.ft) (fun g hg=>by
  have:=hm.small.Zt.2 g hg;exact⟨by have:=this.pts;omega,by have:=this.ends;omega⟩) (nt (yS hm.right hm.small) (by decide))
theorem aab.tfL {w w':World}{fc:List Value}{f:Fnt}(h:aab w (Tf w) fc f)(hb:Below w.heap.size w w'):aab w' (Lw w') fc f:=aab.ok.mono (aab.ok.keep h (fun b hb'=>hb.block b (Tf.lt b hb'))) (fun b hb'=>aa9 (Tf.lt b hb') hb.size)
theorem aab.tf0 {w w':World}{fc:List Value}{f:Fnt}(h:aab w (Tf w) fc f)(hb:Below w.heap.size w w'):aab w' (Tf w') fc f:=
 aab.ok.mono (aab.ok.keep h (fun b hb'=>hb.block b (Tf.lt b hb'))) (fun b hb'=>by
  obtain⟨cs,t,hk,ht⟩:=hb';exact⟨cs,t,(hb.block b hk.lt).trans hk,ht⟩)
theorem yL (w:World)(t:TypeId)(cs:Array Value):∃W,w.alloc (.cells cs t)=W/\Below w.heap.size w W/\Bk W w.heap.size t cs:=⟨_,rfl,(aa0 _ _).alloc (ag _) _,Bk.new _ _ _⟩
theorem Bk.aaR {w w':World}{b:Nat}{t:TypeId}{cs:Array Value}(h:Bk w b t cs)(hb:Below w.heap.size w w'):Bk w' b t cs:=(hb.block b h.lt).trans h
theorem Bk.atL {w w':World}{b:Nat}{t:TypeId}{cs:Array Value}(h:Bk w b t cs)(hb:Below w.heap.size w w')(i:Nat){v:Value}(hv:cs[i]? =some v):w'.cell? ⟨b,i,none⟩=some v:=((h.aaR hb).cell i).trans hv
theorem QV {w w':World}{b:Nat}{t:TypeId}{v0 v1 v2 v3 v4 v5 v6 v7 v8:Value}(h:Bk w b t #[v0,v1,v2,v3,v4,v5,v6,v7,v8])(hb:Below w.heap.size w w'):
  w'.cell? ⟨b,0,none⟩=some v0/\w'.cell? ⟨b,1,none⟩=some v1/\w'.cell? ⟨b,2,none⟩=some v2/\w'.cell? ⟨b,3,none⟩=some v3/\w'.cell? ⟨b,4,none⟩=some v4/\w'.cell? ⟨b,5,none⟩=some v5/\w'.cell? ⟨b,6,none⟩=some v6/\w'.cell? ⟨b,7,none⟩=some v7/\w'.cell? ⟨b,8,none⟩=some v8:=
 ⟨h.atL hb 0 rfl,h.atL hb 1 rfl,h.atL hb 2 rfl,h.atL hb 3 rfl,h.atL hb 4 rfl,h.atL hb 5 rfl,h.atL hb 6 rfl,h.atL hb 7 rfl,h.atL hb 8 rfl⟩
theorem Ey {t:TypeId}{w:World}{hs:List Value}{rows:List (List P3)}{i:Nat}{a b:Int}{s:List UInt8}{q:List P3}(h:RowsIn t w hs rows)(hi:rows[i]? =some ((a,b,s)::q)):
  ∃B o c k,hs[i]? =some (.slice (some ⟨B,o,none⟩) (k+1) c)/\B<w.heap.size/\w.cell? ⟨B,o,none⟩=some (.int .i64 a)/\w.cell? ⟨B,o+1,none⟩=some (.int .i64 b)/\w.cell? ⟨B,o+2,none⟩=some (.string ⟨s.toArray⟩):=by
 obtain⟨A,k,c,h1,h2,-⟩:=h.2 i _ hi;have hl:=h2.1;simp only[jQ,c3,abj,la,lc,ln] at hl;obtain⟨B,o,cur,rfl,hb,hr⟩:=h2.2 (by omega);obtain⟨k,rfl⟩:∃j,k=j+1:=⟨k - 1,by omega⟩
 exact⟨B,o,c,k,h1,hb.lt,(hb.cell _).trans (hr 0 _ rfl),(hb.cell _).trans (hr 1 _ rfl),(hb.cell _).trans (hr 2 _ rfl)⟩
theorem rJ (w:World)(A:Option Addr)(n c:Nat)(zs:List Int)(hc:n<=c)(hr:Rd w w.heap.size A n 1 (aI zs))(hz:∀z∈zs,I64 z)(hT:Tabs w)(hG:nG<=w.heap.size):
  Calls Tryd.prog 5 #[.slice A n c] w fun e w'=>e= .returned (.bool true)/\Below w.heap.size w w':=by
 have hmk:=hd0 (IU w A n c zs hc hr hz);have HT:=hd0 hT;clear hr hz hT;go_enter Tryd.func5,Tryd.ntmps5
 go_wp2_with fail
 refine hmk.out.mono ?_;rintro e w1 ⟨f,fc,hm,rfl,hf,hb1'⟩;have hb1:Below w.heap.size w w1:=hb1';have HM:=hd0 hm;have HF:=hd0 hf;have hz1:=hb1.size;obtain⟨A1,c1,A2,c2,A3,c3,A4,c4,A5,c5,A6,c6,A7,c7,A8,c8,rfl,-⟩:=hf;obtain⟨W1,hW1,hbW,hkW⟩:=yL w1 32 #[.int .i64 f.unit,.slice A1 f.Zt.length c1,.slice A2 f.chars.length c2,.slice A3 f.Zu.length c3,.slice A4 f.features.length c4,.slice A5 f.ZA.length c5,.slice A6 f.regions.length c6,.slice A7 f.funcs.length c7,.slice A8 f.ZB.length c8];have We:=hd0 hkW;have DI:Hid (Below w.heap.size w W1):=hd0 (hb1.trans (hbW.mono hz1));have HU:=hd0 (EQ W1 f _ (HT.out.all DI.out) (nt hG DI.out.size) (HF.out.tf0 hbW) HM.out);have RH:=hd0 (HF.out.tfL hbW);obtain⟨a0,a1,a2,a3,a4,a5,a6,a7,a8⟩:=QV hkW (aa0 _ _);clear hb1 hb1' hm hmk hbW hkW;go_wp2_with fail
 try clear hW1
 refine HU.out.mono ?_;rintro e w2 ⟨rfl,hb2⟩;have HB2:Hid (Below W1.heap.size W1 w2):=hd0 hb2;have SS:=hd0 (Fe HM.out.right);have hlen:=yS HM.out.right HM.out.small;clear a0 a1 a2 a3 a4 a5 a6 a7 a8 hb2 HU;go_wp2_with fail
 refine(GH w2 (fC f) (by omega)).mono ?_;rintro e w3 ⟨v,rfl,Ar,cr,hs,rfl,hrd,TW,hb3⟩;have HB3:Hid (Below W1.heap.size W1 w3):=hd0 (HB2.out.trans (hb3.mono HB2.out.size));have VZ:=hd0 hrd;have Xd:=hd0 TW;have l7:Hid (Bk w3 w1.heap.size 32 #[.int .i64 f.unit,.slice A1 f.Zt.length c1,.slice A2 f.chars.length c2,.slice A3 f.Zu.length c3,.slice A4 f.features.length c4,.slice A5 f.ZA.length c5,.slice A6 f.regions.length c6,.slice A7 f.funcs.length c7,.slice A8 f.ZB.length c8]):=hd0 (We.out.aaR HB3.out);have HF3:Hid (aab w3 (Lw w3) [.int .i64 f.unit,.slice A1 f.Zt.length c1,.slice A2 f.chars.length c2,.slice A3 f.Zu.length c3,.slice A4 f.features.length c4,.slice A5 f.ZA.length c5,.slice A6 f.regions.length c6,.slice A7 f.funcs.length c7,.slice A8 f.ZB.length c8] f):=hd0 (aab.ok.mono (aab.ok.keep RH.out fun b hb=>HB3.out.block b hb) fun b hb=>aa9 hb HB3.out.size);obtain⟨q1,r1,q2,r2,q3,r3,q4,r4,q5,r5,q6,r6,q7,r7,q8,r8,eq,i0,s1,s2,s3,-⟩:=HF3.out;simp only[abO,abQ,true_and,and_true] at eq;obtain⟨⟨rfl,rfl⟩,⟨rfl,rfl⟩,⟨rfl,rfl⟩,⟨rfl,rfl⟩,⟨rfl,rfl⟩,⟨rfl,rfl⟩,⟨rfl,rfl⟩,⟨rfl,rfl⟩⟩:=eq;have xq:=hd0 s1;have Xa:=hd0 s3;have CO:Hid (Below w.heap.size w w3):=hd0 (DI.out.trans (HB3.out.mono DI.out.size));have z3:=CO.out.size;have g1:=HM.out.small.Zt.1;have g2:=HM.out.small.chars;have g3:=HM.out.small.Zu.1;have g4:=HM.out.small.aal.1;have g5:=HM.out.small.ZA;have g6:=HM.out.small.regs.1;have g7:=HM.out.small.funcs.1;have VW:=hd0 HM.out.small.Zt.2;have Wp:=hd0 HM.out.small.Zu.2;clear hrd TW hb3 HB2 RH HF i0 s1 s2 s3 HF3;generalize hLL:kJ (fC f)=LL at*
 clear hLL;have HW0:=hd0 (ZR.start w3 dO);obtain⟨v0,hv0⟩:∃x,w3.alloc (.cells #[.string ⟨#[117,110,105,116]⟩] 9)=x:=⟨_,rfl⟩
 have OW:Hid (ZR w3 v0 [dO] (some ⟨w3.heap.size,0,none⟩) 1):=by rw[<-hv0];exact HW0
 clear HW0;have k5:=l7.out.atL OW.out.2 5 rfl;go_wp2_with fail
 try clear hv0
 refine(dP w3 v0 ([dO]) (some ⟨w3.heap.size,0,none⟩) 1 1 rfl iE (f.ZA.length) OW.out (by omega)).mono ?_;rintro e v1 ⟨XD,Xz,Wi,rfl,YC,UR,NS,Qe⟩;have ML:=hd0 NS;have XW:=hd0 Qe;clear NS Qe k5;have k6:=l7.out.atL ML.out.2 6 rfl;go_wp2_with fail
 refine(dP w3 v1 ([dO]++List.replicate (f.ZA.length) iE) XD Xz Wi UR.out dH (f.regions.length) ML.out (by omega)).mono ?_;rintro e v2 ⟨Xq,XG,VQ,rfl,Yb,U7,OV,Qv⟩;have Qk:=hd0 OV;have XQ:=hd0 Qv;clear OV Qv k6;have g8:=HM.out.small.ZB;have k8:=l7.out.atL Qk.out.2 8 rfl;go_wp2_with fail
 refine(BJ v2 f.ZB).mono ?_;rintro e w' ⟨rfl,rfl⟩;have hso:dS f.ZB<=1:=by unfold dS;split<;>omega
 go_wp2_with fail
 refine(dP w3 v2 ([dO]++List.replicate (f.ZA.length) iE++List.replicate (f.regions.length) dH) Xq XG VQ U7.out fH (dS f.ZB) Qk.out (by omega)).mono ?_;rintro e v3 ⟨Xn,VE,Xx,rfl,YB,Ux,PV,OJ⟩;have NG:=hd0 PV;have XP:=hd0 OJ;clear PV OJ k8;have k7:=l7.out.atL NG.out.2 7 rfl;go_wp2_with fail
 refine(dP w3 v3 ([dO]++List.replicate (f.ZA.length) iE++List.replicate (f.regions.length) dH++List.replicate (dS f.ZB) fH) Xn VE Xx Ux.out iW (f.funcs.length) NG.out (by omega)).mono ?_;rintro e v4 ⟨YG,YM,Ws,rfl,Yx,Oo,OM,Qr⟩;have Ig:=hd0 OM;have XU:=hd0 Qr;clear OM Qr k7;obtain⟨L1,hL1⟩:∃L,Hid (L=[dO]++List.replicate (f.ZA.length) iE++List.replicate (f.regions.length) dH++List.replicate (dS f.ZB) fH++List.replicate (f.funcs.length) iW):=⟨_,rfl⟩
 rw[<-hL1.out] at Ig Oo;have lm:Ws<=20:=by omega
 have k1:=l7.out.atL Ig.out.2 1 rfl;go_wp2_with fail
 clear k1;go_loopw [5,6] (fun v i wr=>∃(k:Nat) (B:Option Addr) (d m:Nat),k<=f.Zt.length/\v= .slice B m d/\i= .int .i64 k/\m<=20+k*100/\Hid ((L1++(f.Zt.take k).flatMap iJ).length=m)/\ZR w3 wr (L1++(f.Zt.take k).flatMap iJ) B d) (fun _ i _=>f.Zt.length - (intOf i).toNat)
 case atStart=>exact⟨0,_,_,_,by omega,rfl,rfl,by omega,by simpa using Oo,by simpa using Ig.out⟩
 case round=>
  obtain⟨k,B,d,m,hk,rfl,rfl,hmk,hmL,hw⟩:=hrel;have HW:=hd0 hw;clear hw;have k1:=l7.out.atL HW.out.2 1 rfl;by_cases hlt:k<f.Zt.length
  ·obtain⟨b,o,x,B3,d3,B4,d4,B5,d5,B6,d6,B7,d7,B8,d8,rfl,hb,hx,p0,p1,p2,p3,p4,p5,p6,p7,p8,-⟩:=(xq.out.lw ZK.ok HW.out.2).ZF hlt;have hsm:=VW.out x (aa8 hx.out);have y4:=hsm.ends;have y5:=hsm.parts;have y6:=hsm.anch;have y7:=hsm.aax;obtain⟨Wx,bT,hbx,hkx⟩:=yL wr 57 #[.string ⟨x.name.toArray⟩,.int .i64 x.advance,.bool x.mark,.slice B3 x.points.length d3,.slice B4 x.ends.length d4,.slice B5 x.parts.length d5,.slice B6 x.anchors.length d6,.slice B7 x.deltas.length d7,.slice B8 x.hint.length d8];have VM:=hd0 (HW.out.below hbx);have Xe:=hd0 hkx;have yE:Hid ((f.Zt.take (k+1)).flatMap iJ=(f.Zt.take k).flatMap iJ++iJ x):=hd0 (by rw[List.take_add_one,hx.out,aby];simp);have Yo:=hkx.lt;clear hb hx hsm hbx hkx;generalize (f.Zt.take k).flatMap iJ=LG at*
   go_wp2_with fail
   try clear bT
   clear p0 p1 p2 p3 p4 p5 p6 p7 p8 k1;refine(dP w3 Wx (L1++LG) B d m hmL.out bP (1) VM.out (by omega)).mono ?_;rintro e v21 ⟨Ud,Vk,UC,rfl,XV,QF,JW,JP⟩;have QM:=hd0 JW;have J4:=hd0 (JP _ _ _ Xe.out (by decide));clear JW JP;have WX:=J4.out.cell 4;go_wp2_with fail
   refine(dP w3 v21 (L1++LG++List.replicate (1) bP) Ud Vk UC QF.out bI (x.ends.length) QM.out (by omega)).mono ?_;rintro e v22 ⟨UB,UN,Ua,rfl,X4,QW,JU,JI⟩;have Q4:=hd0 JU;have Js:=hd0 (JI _ _ _ J4.out (by decide));clear JU JI WX;have Xk:=Js.out.cell 5;go_wp2_with fail
   refine(dP w3 v22 (L1++LG++List.replicate (1) bP++List.replicate (x.ends.length) bI) UB UN Ua QW.out gW (x.parts.length) Q4.out (by omega)).mono ?_;rintro e v23 ⟨Vd,UK,UQ,rfl,XY,QC,Jr,JX⟩;have Q7:=hd0 Jr;have Jp:=hd0 (JX _ _ _ Js.out (by decide));clear Jr JX Xk;have XF:=Jp.out.cell 6;go_wp2_with fail
   refine(dP w3 v23 (L1++LG++List.replicate (1) bP++List.replicate (x.ends.length) bI++List.replicate (x.parts.length) gW) Vd UK UQ QC.out dV (x.anchors.length) Q7.out (by omega)).mono ?_;rintro e v24 ⟨Us,Uc,UY,rfl,X3,QD,Jh,JG⟩;have Q8:=hd0 Jh;have Jv:=hd0 (JG _ _ _ Jp.out (by decide));clear Jh JG XF;have WZ:=Jv.out.cell 7;go_wp2_with fail
   refine(dP w3 v24 (L1++LG++List.replicate (1) bP++List.replicate (x.ends.length) bI++List.replicate (x.parts.length) gW++List.replicate (x.anchors.length) dV) Us Uc UY QD.out gy (x.deltas.length) Q8.out (by omega)).mono ?_;rintro e v25 ⟨UX,UV,Uh,rfl,XX,Q3,Jj,JY⟩;have QQ:=hd0 Jj;have JA:=hd0 (JY _ _ _ Jv.out (by decide));clear Jj JY WZ;have Xp:=JA.out.cell 8;go_wp2_with fail
   refine(BJ v25 x.hint).mono ?_;rintro e w' ⟨rfl,rfl⟩;have hso:dS x.hint<=1:=by unfold dS;split<;>omega
   go_wp2_with fail
   refine(dP w3 v25 (L1++LG++List.replicate (1) bP++List.replicate (x.ends.length) bI++List.replicate (x.parts.length) gW++List.replicate (x.anchors.length) dV++List.replicate (x.deltas.length) gy) UX UV Uh Q3.out iH (dS x.hint) QQ.out (by omega)).mono ?_;rintro e v26 ⟨Yr,X9,Yz,rfl,XT,Q5,Jz,JR⟩;have QH:=hd0 Jz;have XZ:=hd0 (JR _ _ _ JA.out (by decide));clear Jz JR Xp;go_wp2_with fail
   go_roundw
   case rel=>exact⟨k+1,_,_,_,by omega,rfl,by simp,by omega,by rw[yE.out];simpa only[iJ,abe,List.replicate_one,List.singleton_append] using Q5,by rw[yE.out];simpa only[iJ,abe,List.replicate_one,List.singleton_append] using QH.out⟩
   case measure=>simp[intOf];omega
  obtain rfl:k=f.Zt.length:=by omega
  rw[aa6] at hmL HW;have k2:=l7.out.atL HW.out.2 2 rfl;go_wp2_with fail
  refine(dP w3 wr (L1++f.Zt.flatMap iJ) B d m hmL.out kC (f.chars.length) HW.out (by omega)).mono ?_;rintro e v41 ⟨Yp,Yn,Vb,rfl,XR,Jt,Jg,JE⟩;have Cb:=hd0 Jg;have Vx:=hd0 JE;clear Jg JE k2;obtain⟨L2,hL2⟩:∃L,Hid (L=L1++f.Zt.flatMap iJ++List.replicate (f.chars.length) kC):=⟨_,rfl⟩
  rw[<-hL2.out] at Cb Jt;have YQ:Vb<=2000:=by omega
  have k3:=l7.out.atL Cb.out.2 3 rfl;go_wp2_with fail
  clear k3;go_loopw [5,8] (fun v i wr=>∃(k:Nat) (B:Option Addr) (d m:Nat),k<=f.Zu.length/\v= .slice B m d/\i= .int .i64 k/\m<=2000+k*100/\Hid ((L2++(f.Zu.take k).flatMap jk).length=m)/\ZR w3 wr (L2++(f.Zu.take k).flatMap jk) B d) (fun _ i _=>f.Zu.length - (intOf i).toNat)
  case atStart=>exact⟨0,_,_,_,by omega,rfl,rfl,by omega,by simpa using Jt,by simpa using Cb.out⟩
  case round=>
   obtain⟨wu,rfl⟩:∃x,x=wr:=⟨_,rfl⟩
   obtain⟨k,B,d,m,hk,rfl,rfl,hmk,I9,hw⟩:=hrel;have EP:=hd0 hw;clear hw;have k3:=l7.out.atL EP.out.2 3 rfl;by_cases hlt:k<f.Zu.length
   ·have yE:∀y,f.Zu[k]? =some y->(f.Zu.take (k+1)).flatMap jk=(f.Zu.take k).flatMap jk++jk y:=fun y hy=>by rw[List.take_add_one,hy,aby];simp
    have yE:=hd0 yE;generalize (f.Zu.take k).flatMap jk=LG at*
    go_wp2_with fail
    refine(dP w3 wu (L2++LG) B d m I9.out dB 1 EP.out (by omega)).mono ?_;rintro e x1 ⟨Vp,Wh,WP,rfl,YD,Uz,Dt,-⟩;have Un:=hd0 Dt;clear k3;have k3:=l7.out.atL Dt.2 3 rfl;obtain⟨b,o,y,B2,d2,rfl,hb,hx,p0,p1,p2,-⟩:=(Xa.out.lw ZE.ok Dt.2).lookup hlt;have y2:=(Wp.out y (aa8 hx.out)).1;have RU:=hd0 (yE.out y hx.out);clear hb hx yE Dt;go_wp2_with fail
    refine(dP w3 x1 (L2++LG++List.replicate 1 dB) Vp Wh WP Uz.out bn y.rules.length Un.out (by omega)).mono ?_;rintro e x2 ⟨YH,YW,Zf,rfl,YA,UH,Oq,-⟩;have Vg:=hd0 Oq;clear Oq p0 p1 p2 k3;go_wp2_with fail
    go_roundw
    case rel=>exact⟨k+1,_,_,_,by omega,rfl,by simp,by omega,by rw[RU.out];simpa only[jk,abe,List.replicate_one,List.singleton_append] using UH,by rw[RU.out];simpa only[jk,abe,List.replicate_one,List.singleton_append] using Vg.out⟩
    case measure=>simp[intOf];omega
   obtain rfl:k=f.Zu.length:=by omega
   rw[aa6] at I9 EP;have k4:=l7.out.atL EP.out.2 4 rfl;go_wp2_with fail
   refine(dP w3 wu (L2++f.Zu.flatMap jk) B d m I9.out dY (f.features.length) EP.out (by omega)).mono ?_;rintro e v61 ⟨UE,UT,Ht,rfl,X0,QU,JO,JV⟩;have QJ:=hd0 JO;have Vs:=hd0 JV;clear JO JV k4;have HL:Hid (LL.length=Ht):=hd0 (SS.out.1.trans (by
    rw[<-QU.out,hL2.out,hL1.out];simp only[nJ,abe]))
   have Xm:Hid (ZR w3 v61 (nJ f) UE UT):=by have:=QJ.out;rw[hL2.out,hL1.out] at this;simpa only[nJ,abe] using hd0 this
   have heq:((LL.length:Int) !=(Ht:Int))=false:=by have:=HL.out;simp[this]
   go_wp2_with fail
   have HRW:=hd0 SS.out.2;go_loopw [9] (fun i wr=>∃q:Nat,q<=LL.length/\i= .int .i64 q/\Below v61.heap.size v61 wr) (fun i _=>LL.length - (intOf i).toNat)
   case atStart=>exact⟨0,by omega,rfl,aa0 _ _⟩
   case round=>
    obtain⟨w6,rfl⟩:∃x,x=wr:=⟨_,rfl⟩
    obtain⟨q,hq,rfl,hb6⟩:=hrel;have wR:=hd0 (Xm.out.below hb6);have Wn:=hd0 hb6;clear hb6;by_cases hlt:q<LL.length
    ·obtain⟨r,hr⟩:∃r,LL[q]? =some r:=⟨_,aa3 hlt⟩
     obtain⟨s,t,rfl,hs2⟩:=HRW.out q r hr;obtain⟨g,rfl,hg⟩:=wR.out.cell hs2;obtain⟨B9,o9,c9,k9,e9,J3,x0,x1,x2⟩:=Ey Xd.out hr;obtain⟨b8,o8,Yq,rfl,hb8,hc8⟩:=VZ.out.2 (by omega);have y0:w6.cell? ⟨b8,o8+q,none⟩=some (.slice (some ⟨B9,o9,none⟩) (k9+1) c9):=((xJ wR.out.2).1 _ _ hb8.lt).trans ((hb8.cell _).trans (hc8 q _ e9));have y1:w6.cell? ⟨B9,o9,none⟩=some (.int .i64 ((q:Int)+1)):=((xJ wR.out.2).1 _ _ J3).trans x0;have y2:w6.cell? ⟨B9,o9+1,none⟩=some (.int .i64 0):=((xJ wR.out.2).1 _ _ J3).trans x1;have y3:w6.cell? ⟨B9,o9+2,none⟩=some (.string ⟨s.toArray⟩):=((xJ wR.out.2).1 _ _ J3).trans x2;clear hr hs2 e9 J3 x0 x1 x2 hb8 hc8;have hq6:q<Ht:=by have:=HL.out;omega
     have t1:(((k9+1:Nat):Int)==0)=false:=by simp;omega
     have t2:(s !=s)=false:=by simp
     have t3:(((q:Int)+1) !=((q:Int)+1))=false:=by simp
     have t4:IntKind.i64.wrap ((q:Int)+1)=(q:Int)+1:=IntWalk.i64_in _ (by omega);go_wp2_with fail
     go_quiet (fail)
     go_wp2_with fail
     go_roundw
     case rel=>exact⟨q+1,by omega,by simp,below_drewN Wn.out _⟩
     case measure=>simp[intOf];omega
    obtain rfl:q=LL.length:=by omega
    have hpr:=hd0 (DW w6 (HT.out.all (CO.out.trans (wR.out.2.mono z3))) (nt hG (CO.out.trans (wR.out.2.mono z3)).size));have Bc:Hid (Below w.heap.size w w6):=hd0 (CO.out.trans (wR.out.2.mono z3));go_wp2_with fail
    refine hpr.out.mono ?_;rintro e w7 ⟨rfl,hb7⟩;go_wp2_with fail
    go_ret
    exact⟨rfl,Bc.out.trans (hb7.mono Bc.out.size)⟩
end
section
open Go.ChangeShapes Go.WideShapes Go.ChangeAt Go.RowKit
open Go.ChangeMaps (open_string shut_string)
set_option linter.unusedVariables false
theorem rO:ownKnob Tryd.prog.godebug=none:=by kernel_rfl
theorem oH:laidOutB Tryd.prog=true:=by kernel_rfl
theorem oZ (os:Os)(started:os.Started)(H:Type)(enc:TypeId×Value->H):
  ReturnsInHanded {} Tryd.checked os 5 .any (fun w args=>(Rows.unparseLinesSpec.pre enc Tryd.prog Tryd.f5 Rows.unparseLinesRow.domain false w args/\laidMetH Tryd.prog Rows.unparseLinesRow.laid w)/\sizedMet enc Tryd.prog Tryd.f5 (OpenSpec.ofChange Rows.unparseLinesSpec) false w args)
   (Rows.unparseLinesSpec.post enc Tryd.prog Tryd.f5 false true false false):=by
 refine returnsInHanded_of_change_and (C:=Tryd.checked) (X:=fun w _=>laidMetH Tryd.prog Rows.unparseLinesRow.laid w) (fun _ _ _ hh h=>h.of_heap hh) rO started (by kernel_rfl) Tryd.func5
  (ChangeSpec.witness_shaped (enc:=enc) (C:=Tryd.checked) (os:=os) (X:=fun w _=>laidMetH Tryd.prog Rows.unparseLinesRow.laid w) false (World.laidAll Tryd.prog os Rows.unparseLinesRow.laid) #[.slice none 0 0] 8 (World.laidAll_os _ _ _)
   (World.shaped_of_ZipB (by kernel_rfl) (by kernel_rfl)) (by kernel_rfl) (by kernel_rfl) (by kernel_rfl)
   (by rw[MakeChecks.laidMetH_plain _ _ _ (by kernel_rfl)];exact laidMet_laidAll _ (by kernel_rfl) (by kernel_rfl))) ?_
 intro W base args ds gs before hval0 hW hcnd _ hL _;have hval:∀(j:Nat) t v,Tryd.f5.params[j]? =some t->args[j]? =some v->Value.okWide Tryd.prog W .any base t v:=hval0;have hW':=hW;obtain⟨p,q,hA0,hV,rfl,hfz,hnd⟩:=hW;have hA:DataW.TrodAll enc Tryd.prog W 0 (fun _=>true) true Tryd.f5.params.toList args.toList ds p:=hA0;rw[Tryd.params5] at hA hval;obtain⟨v0,YL,d0,ds0,p0,q0,hargs,rfl,rfl,h0,r0⟩:=trodAll_cons hA;obtain⟨rfl,rfl,rfl⟩:=trodAll_nil r0;obtain rfl:args= #[v0]:=by cases args;simp_all
 obtain⟨rfl,rfl⟩:=trodVars_none hV;have k0:=h0;have VD:∀x∈p0,x.block<W.heap.size:=by obtain⟨m,hm⟩:=k0;exact DataW.trod_lt m _ _ _ hm
 obtain⟨A0,n0,c0,zs0,rfl,hc0,hm0,hr0,hi0⟩:=Eh (hval 0 22 v0 rfl rfl) h0;clear hA0 hval0;have hL':laidMetH Tryd.prog Rows.unparseLinesRow.laid W:=hL;rw[MakeChecks.laidMetH_plain _ _ _ (by kernel_rfl)] at hL';refine(rJ W A0 n0 c0 zs0 hc0 hr0 hi0 (EW hL' (by simp[Rows.unparseLinesRow]) (by simp[Rows.unparseLinesRow]) (by simp[Rows.unparseLinesRow]) (by simp[Rows.unparseLinesRow])) (ET hL' (by simp[Rows.unparseLinesRow]))).mono fun e W' ⟨he,bel⟩=> ?_
 subst he;exact⟨_,rfl,_,_,_,[],_,[],hW',trodAll_mk1 (shut_bool Tryd.underlying4 _),(trodAll_cons_mk (Below.trod oH (by kernel_rfl) (of_decide_eq_true (by kernel_rfl)) k0 bel VD) trodAll_mk0),rfl,bel.frame _,fun h=>by cases h⟩
end
section
open Go.ChangeShapes Go.WideShapes Go.ChangeAt Go.RowKit
open Go.ChangeMaps (open_string shut_string)
set_option linter.unusedVariables false
theorem aj {a b:Bool}(ha:a=true)(hb:b=true):(a && b)=true:=by rw[ha,hb];rfl
set_option maxHeartbeats 4000000
theorem uB:Rows.unparseLinesRow.wf (OpenSpec.ofChange Rows.unparseLinesSpec)=true:=by kernel_rfl
theorem tX:laidOutB Tryd.prog=true:=by kernel_rfl
theorem uG:mapsRowed Tryd.prog=true:=by kernel_rfl
theorem uF:Tryd.f5.params.all (Tryd.prog.readableRec ·)=true:=by kernel_rfl
theorem uN:namedTie Tryd.prog Rows.unparseLinesRow.named Rows.unparseLinesSpec.vars=true:=by kernel_rfl
theorem uC:(Rows.unparseLinesRow.stops==[])=true:=by kernel_rfl
theorem tH:(Tryd.prog.stops==[])=true:=by kernel_rfl
theorem ug:(Rows.unparseLinesRow.knobs==[])=true:=by kernel_rfl
theorem uH:(Tryd.prog.stopKnobs==[])=true:=by kernel_rfl
theorem sV:(Rows.unparseLinesRow.inPlace==Tryd.prog.inPlace 5)=true:=by kernel_rfl
theorem rY:(Rows.unparseLinesRow.unfollowed==Tryd.prog.unfollowed 5)=true:=by kernel_rfl
theorem rF:(Rows.unparseLinesRow.recurses==Tryd.prog.recurses 5)=true:=by kernel_rfl
theorem rE:(Rows.unparseLinesRow.named==Tryd.prog.varsNamed 5)=true:=by kernel_rfl
theorem rV:(Rows.unparseLinesRow.maps==(Tryd.f5.params.toList++Rows.unparseLinesSpec.plain.varTypes Tryd.prog).any (Tryd.prog.mapsRec ·))=true:=by kernel_rfl
theorem su:(Rows.unparseLinesRow.ifaces==(Tryd.f5.params.toList++Rows.unparseLinesSpec.plain.varTypes Tryd.prog).any (Tryd.prog.ifacesRec ·))=true:=by kernel_rfl
theorem rX:(Rows.unparseLinesRow.mapsOut==Tryd.prog.mapsAmong Tryd.f5.resultTypes.toList)=true:=by kernel_rfl
theorem sZ:(Rows.unparseLinesRow.loops==(Tryd.f5.params.toList++Rows.unparseLinesSpec.plain.varTypes Tryd.prog).any (Tryd.prog.loopsFrom ·))=true:=by kernel_rfl
theorem qZ:(Rows.unparseLinesRow.wideKeys==(Tryd.f5.params.toList++Rows.unparseLinesSpec.plain.varTypes Tryd.prog++Tryd.f5.resultTypes.toList).any (Tryd.prog.wideKeysFrom ·))=true:=by kernel_rfl
theorem sS:Rows.unparseLinesSpec.vars.all (Tryd.prog.varReadable ·)=true:=by kernel_rfl
theorem rQ:Tryd.f5.resultTypes.all (fun t=>Tryd.prog.readableRec t && decide (t<Tryd.prog.types.size))=true:=by kernel_rfl
theorem sW:(Rows.unparseLinesRow.ifacesOut==Tryd.f5.resultTypes.toList.any (Tryd.prog.ifacesRec ·))=true:=by kernel_rfl
theorem rD:(Rows.unparseLinesRow.loopsOut==Tryd.f5.resultTypes.toList.any (Tryd.prog.loopsFrom ·))=true:=by kernel_rfl
theorem tu:(Rows.unparseLinesRow.plainKeys==Tryd.prog.plainKeys)=true:=by kernel_rfl
theorem rP:Rows.unparseLinesRow.shortTexts.isNone=true:=by kernel_rfl
theorem sQ:Tryd.prog.stopsHeard=true:=by kernel_rfl
theorem rM:Tryd.prog.mayEnter=true:=by kernel_rfl
theorem sK:(Rows.unparseLinesRow.lifted==Tryd.prog.liftsFinal)=true:=by kernel_rfl
theorem rq:(Tryd.prog.make==some Rows.unparseLinesRow.make)=true:=by kernel_rfl
theorem sO:(Rows.unparseLinesRow.pinned==Rows.unparseLinesRow.pinnedBy)=true:=by kernel_rfl
theorem sF:(Rows.unparseLinesRow.veiled==(Tryd.f5.params.toList++Rows.unparseLinesSpec.plain.varTypes Tryd.prog++Tryd.f5.resultTypes.toList).any (Tryd.prog.veiledRec ·))=true:=by kernel_rfl
theorem sU:Rows.unparseLinesRow.veiledFits Tryd.prog Tryd.f5.params.toList (Tryd.f5.params.toList++Rows.unparseLinesSpec.plain.varTypes Tryd.prog++Tryd.f5.resultTypes.toList)=true:=by kernel_rfl
theorem oW:joinedFacts Tryd.prog 5 Tryd.f5 Rows.unparseLinesSpec Rows.unparseLinesRow=true:=aj (aj (aj (aj (aj (aj (aj (aj (aj (aj (aj (aj (aj (aj (aj (aj (aj (aj (aj (aj (aj (aj (aj (aj (aj (aj (aj (aj (aj (aj (aj uB tX) uG) uF) uN) uC) tH) ug) uH) sV) rY) rF) rE) rV) su) rX) sZ) qZ) sS) rQ) sW) rD) tu) rP) sQ) rM) sK) rq) (by kernel_rfl)) sO) sF) sU
theorem qV:Rows.UnparseLinesSaid:=
 OpenClaim.holds_of_wide 5 Tryd.f5 rfl rfl rfl rfl rfl rfl rfl ⟨rfl,rfl,rfl,rfl,rfl⟩ rfl rfl rfl rfl rfl (by kernel_rfl) Tryd.func5 oW
  (of_decide_eq_true (by kernel_rfl)) (by unfold Func.isWrapper;first|(rw[if_pos (by decide+kernel)];kernel_rfl)|(rw[if_neg (by decide+kernel)];exact⟨rfl,rfl⟩))
  (fun os started H enc _=>oZ os started H enc)
end
end Go.Proofs.YtkijckccfookeaaDoor
