/- Lemmas. -/
import Derived.Test.YtkijckccfookeaaDoorUnH
set_option linter.unusedVariables false
set_option linter.unusedSimpArgs false
set_option maxRecDepth 100000
set_option maxHeartbeats 32000000
namespace Go.Proofs.YtkijckccfookeaaDoor
open Go.RowKit Go.Shelf Go.Sort
def dZ (l:List Int):B:=if l.isEmpty then [] else ai fH (l.map af)
theorem yH (f:Fnt):fC f=ai dO [af f.unit]++f.ZA.flatMap bF++f.regions.flatMap aU++dZ f.ZB++f.funcs.flatMap df++f.Zt.flatMap (bi f.Zt)++f.chars.flatMap (eG f.Zt)++f.Zu.flatMap (bf f.Zt)++f.features.flatMap dG:=rfl
def UD (l:List Value)(i:Nat):Value:=l.getD i undef
theorem DC (gs:List Zy)(x:Zy):1<=(bi gs x).length:=by rw[pY];have:1<=(Gj x).length:=dQ _ _;simp only[la];omega
theorem KZ (gs:List Zy)(x:Zy):x.hint.length<=(bi gs x).length:=by
 rw[pY];simp only[la];unfold qN;split
 ·rename_i h;have:x.hint=[]:=by simpa using h
  rw[this];simp
 have:=fE iH (x.hint.map aX);rw[aa7] at this;omega
theorem Ja {α:Type}(f:α->B)(l:List α)(x:α)(h:x∈l):(f x).length<=(l.flatMap f).length:=by obtain⟨k,hk⟩:=abk.1 h;have:=aH f l k x hk;omega
theorem zU (gs:List Zy)(x:Lookup):1<=(bf gs x).length:=by unfold bf;have:=dQ dB (pick aK x.kind::if x.aae then [iK] else []);rw[la];omega
theorem zC {ops:Array Oper}{o:Oper}{a:Act}{K:Act->World->Prop}{Q:Exit->Act->World->Prop}{E:Prop}(hgd:o.guard=none)(s x:Operand)
  (ho:o.op= .call {callee:= .builtin .append,args:= #[s,x],argTypes:= #[46,46]})
  (w1:World) (base n c:Nat) (A:Option Addr) (xs:List Value) (Bd:Nat) (A2:Option Addr) (m c2:Nat) (ws:List B) (hs:a.eval s= .slice A n c) (hx:a.eval x= .slice A2 m c2)
  (hown:w1.ownsRow base 9 1 (.slice A n c) n xs) (hr:Rd w1 Bd A2 m 1 (strs ws)) (hn:n+m<=1000000000000) (hb:base<=w1.heap.size)
  (h:∀A' c' w',w'.ownsRow base 9 1 (.slice A' (n+m) c') (n+m) (xs++strs ws)->w1.grownBy w' (Value.slice A n c).ownBlock->K (a.put o.dst (.slice A' (n+m) c')) w'):
  if Region.wanted o (yielded ops a.tmps)=true then Oper.wp Tryd.prog o a w1 K Q else E:=by
 obtain⟨i0,hi0,hz0,hz1,hz2⟩:=info_parts qF;refine lY _ hgd s x 46 ho base 9 i0 _ 1 16 Tryd.underlying46 hi0 hz0 hz1 hz2 rfl (by decide) (.slice A n c) n xs hs hown Bd A2 m c2 (strs ws) hx hr (rC ws) (by simp only[maxLen];omega) (by omega) hb ?_;intro v' w' ho' hg _;obtain⟨A',c',rfl⟩:=nK ho';exact h A' c' w' ho' hg
theorem Bz (w:World)(base:Nat)(y:B)(h:base<=w.heap.size):(w.alloc (.cells #[.string ⟨y.toArray⟩] 9)).ownsRow base 9 1 (.slice (some ⟨w.heap.size,0,none⟩) 1 1) 1 [.string ⟨y.toArray⟩]:=⟨rfl,.inr ⟨w.heap.size,1,#[.string ⟨y.toArray⟩],rfl,h,heap_alloc_new w _,ag _,by decide,rfl,rfl⟩⟩
theorem GG {w:World}{A:Option Addr}{n size:Nat}{cs:List Value}{o:Obj}(h:Rd w w.heap.size A n size cs):Rd (w.alloc o) w.heap.size A n size cs:=h.alloc (ag _) o
theorem yw {w:World}{o:Obj}{n:Nat}(h:n<=w.heap.size):n<=(w.alloc o).heap.size:=by simp;omega
theorem vP (w:World)(f:Fnt) A1 A2 A3 A4 A5 A6 A7 A8 c1 c2 c3 c4 c5 c6 c7 c8 (hT:Tabs w) (hG:nG<=w.heap.size) (r0:I64 f.unit) (s1:Sl ZK 9 w (FT w) A1 f.Zt) (s2:Sl aai 2 w (FT w) A2 f.chars) (s3:Sl ZE 3 w (FT w) A3 f.Zu) (s4:Sl ZH 2 w (FT w) A4 f.features) (s5:Sl ZY 4 w (FT w) A5 f.ZA) (s6:Sl ZJ 1 w (FT w) A6 f.regions) (s7:Sl ZW 1 w (FT w) A7 f.funcs) (s8:Sl Zx 1 w (FT w) A8 f.ZB)
  (hS:∀g∈f.Zt,g.points.length<=1000000000/\g.ends.length<=1000000000) (hL:(fC f).length<=1000000000):
  Calls Tryd.prog 8 #[.agg #[.int .i64 f.unit,.slice A1 f.Zt.length c1,.slice A2 f.chars.length c2,.slice A3 f.Zu.length c3,.slice A4 f.features.length c4,.slice A5 f.ZA.length c5,.slice A6 f.regions.length c6,.slice A7 f.funcs.length c7,.slice A8 f.ZB.length c8]] w fun e w'=>e= .returned (.string ⟨(fC f).toArray⟩)/\Below w.heap.size w w':=by
 have HF:=hd0 (yH f);rw[yH] at hL;obtain⟨T0,D8⟩:∃T0,ai dO [af f.unit]=T0:=⟨_,rfl⟩
 rw[D8] at hL HF;have HT0:=hd0 D8;have QS:T0.length+(f.ZA.flatMap bF).length+(f.regions.flatMap aU).length+(dZ f.ZB).length+(f.funcs.flatMap df).length+(f.Zt.flatMap (bi f.Zt)).length+(f.chars.flatMap (eG f.Zt)).length+(f.Zu.flatMap (bf f.Zt)).length+(f.features.flatMap dG).length<=1000000000:=by simp only[la] at hL;omega
 have hne:Hid (T0++f.ZA.flatMap bF++f.regions.flatMap aU++dZ f.ZB++f.funcs.flatMap df++f.Zt.flatMap (bi f.Zt)++f.chars.flatMap (eG f.Zt)++f.Zu.flatMap (bf f.Zt)++f.features.flatMap dG≠[]):=hd0 (by
  intro h;have:=congrArg List.length h;rw[<-D8] at this;have h2:=dQ dO [af f.unit];simp only[la,ln] at this;omega)
 clear D8 hL;have n1:f.Zt.length<=10000000000:=by have:=fP (bi f.Zt) (DC f.Zt) f.Zt;omega
 have n2:f.chars.length<=10000000000:=by have:=fP (eG f.Zt) (fun _=>dQ _ _) f.chars;omega
 have n3:f.Zu.length<=10000000000:=by have:=fP (bf f.Zt) (zU f.Zt) f.Zu;omega
 have n4:f.features.length<=10000000000:=by have:=fP dG (fun _=>dQ _ _) f.features;omega
 have n5:f.ZA.length<=10000000000:=by have:=fP bF (fun _=>dQ _ _) f.ZA;omega
 have n6:f.regions.length<=10000000000:=by have:=fP aU (fun _=>dQ _ _) f.regions;omega
 have n7:f.funcs.length<=10000000000:=by have:=fP df (fun _=>dQ _ _) f.funcs;omega
 have hgl:f.Zt.length<=1000000000000:=by omega
 have hH:∀y∈f.Zt,y.hint.length<=1000000000:=fun y hy=>by have h1:=KZ f.Zt y;have h2:=Ja (bi f.Zt) f.Zt y hy;omega
 have hS:=hd0 hS;have hH:=hd0 hH;go_enter Tryd.func8,Tryd.ntmps8
 go_upto_region 2 with fail
 obtain⟨W0,hW0⟩:∃W0,(w.alloc (.cells #[.int .i64 f.unit,.slice A1 f.Zt.length c1,.slice A2 f.chars.length c2,.slice A3 f.Zu.length c3,.slice A4 f.features.length c4,.slice A5 f.ZA.length c5,.slice A6 f.regions.length c6,.slice A7 f.funcs.length c7,.slice A8 f.ZB.length c8] 32)).alloc (.cells #[.int .i64 f.unit,.slice A1 f.Zt.length c1,.slice A2 f.chars.length c2,.slice A3 f.Zu.length c3,.slice A4 f.features.length c4,.slice A5 f.ZA.length c5,.slice A6 f.regions.length c6,.slice A7 f.funcs.length c7,.slice A8 f.ZB.length c8,.pointer none,.slice none 0 0] 96)=W0:=⟨_,rfl⟩
 rw[hW0];have hbW:Below w.heap.size w W0:=by rw[<-hW0];exact((aa0 _ _).alloc (ag _) _).alloc (by simp) _
 have B0:Bk W0 w.heap.size 32 #[.int .i64 f.unit,.slice A1 f.Zt.length c1,.slice A2 f.chars.length c2,.slice A3 f.Zu.length c3,.slice A4 f.features.length c4,.slice A5 f.ZA.length c5,.slice A6 f.regions.length c6,.slice A7 f.funcs.length c7,.slice A8 f.ZB.length c8]:=by rw[<-hW0];exact(Bk.new _ _ _).alloc _
 have B1:Bk W0 (w.heap.size+1) 96 #[.int .i64 f.unit,.slice A1 f.Zt.length c1,.slice A2 f.chars.length c2,.slice A3 f.Zu.length c3,.slice A4 f.features.length c4,.slice A5 f.ZA.length c5,.slice A6 f.regions.length c6,.slice A7 f.funcs.length c7,.slice A8 f.ZB.length c8,.pointer none,.slice none 0 0]:=by
  rw[<-hW0];have:=Bk.new (w.alloc (.cells #[.int .i64 f.unit,.slice A1 f.Zt.length c1,.slice A2 f.chars.length c2,.slice A3 f.Zu.length c3,.slice A4 f.features.length c4,.slice A5 f.ZA.length c5,.slice A6 f.regions.length c6,.slice A7 f.funcs.length c7,.slice A8 f.ZB.length c8] 32)) 96 #[.int .i64 f.unit,.slice A1 f.Zt.length c1,.slice A2 f.chars.length c2,.slice A3 f.Zu.length c3,.slice A4 f.features.length c4,.slice A5 f.ZA.length c5,.slice A6 f.regions.length c6,.slice A7 f.funcs.length c7,.slice A8 f.ZB.length c8,.pointer none,.slice none 0 0]
  rwa [World.size_alloc] at this
 obtain⟨fc,hfc⟩:∃fc:Nat->Value,PrC W0 (w.heap.size+1) fc (.pointer none) (.slice none 0 0):=⟨UD [.int .i64 f.unit,.slice A1 f.Zt.length c1,.slice A2 f.chars.length c2,.slice A3 f.Zu.length c3,.slice A4 f.features.length c4,.slice A5 f.ZA.length c5,.slice A6 f.regions.length c6,.slice A7 f.funcs.length c7,.slice A8 f.ZB.length c8],B1⟩
 have z0:=hbW.size;have Qz:w.heap.size<=W0.heap.size:=z0;have hp0:Pr W0 w.heap.size (w.heap.size+1) fc []:=⟨_,_,by omega,hfc,.inl rfl,⟨rfl,.inl ⟨rfl,rfl⟩⟩⟩
 have hP0:PN W0 (w.heap.size+1) f.Zt:=⟨A1,c1,B1.cell 1,(KP.below hbW).sl ZK.ok s1⟩
 have hkW:=KP.below hbW;replace s1:=hkW.sl ZK.ok s1;replace s2:=hkW.sl aai.ok s2;replace s3:=hkW.sl ZE.ok s3;replace s4:=hkW.sl ZH.ok s4;replace s5:=hkW.sl ZY.ok s5;replace s6:=hkW.sl ZJ.ok s6;replace s7:=hkW.sl ZW.ok s7;replace s8:=hkW.sl Zx.ok s8;have q0:W0.cell? ⟨w.heap.size,0,none⟩=some (.int .i64 f.unit):=B0.cell 0;have hnu:=hd0 (aA W0 f.unit (hT.all hbW) r0);have WG:([]:B).length+(ai dO [af f.unit]).length<=10000000000:=by rw[HT0.out];simp only[ln];omega
 clear hW0 hfc hkW;go_wp2_with (first
  |(go_at_call 21;refine hnu.out.mono ?_;rintro e w1 ⟨rfl,hb1⟩)
  |(go_at_call 20;refine(fG w1 w1.heap.size 1 rfl w.heap.size (w.heap.size+1) fc [] dO [af f.unit] rfl (hp0.below hb1) WG).mono ?_;rintro e W1 ⟨rfl,hp1,hk1,Pz⟩;have l5:W1.cell? ⟨w.heap.size,5,none⟩=some (.slice A5 f.ZA.length c5):=(hk1.bk (B0.below hb1) (by decide) (by decide)).cell 5))
 have aG:Hid (jT w W0 w.heap.size (w.heap.size+1) fc T0 W1):=by rw[HT0.out] at hp1;exact⟨hp1,(KP.below hb1).trans hk1,hbW.trans ((hb1.mono (by omega)).trans Pz)⟩
 clear q0 hnu hp1 hk1 Pz;have Wu:W1.cell? ⟨w.heap.size,5,none⟩=some (.slice A5 f.ZA.length c5):=(aG.out.2.1.bk B0 (by decide) (by decide)).cell 5;go_wp2_with fail
 go_loopw [30] (fun i wr=>∃k:Nat,k<=f.ZA.length/\i= .int .i64 k/\jT w W0 w.heap.size (w.heap.size+1) fc (T0++(f.ZA.take k).flatMap bF) wr) (fun i _=>f.ZA.length - (intOf i).toNat)
 case atStart=>exact⟨0,nz _,rfl,by simpa using aG.out⟩
 case round=>
  obtain⟨k,hk,rfl,az⟩:=hrel;clear Wu aG;have hkr:KP W0 wr:=az.2.1;have gB:=hkr.size;have aG:=hd0 az;by_cases hlt:k<f.ZA.length
  ·have hkb:k<=10000000000:=nt (abH hlt) n5;have hTr:Tabs wr:=hT.below az.2.2 hG;have jK:PN wr (w.heap.size+1) f.Zt:=hP0.kp hp0 az.1 hkr;have hpr:=az.1;have hsl:=hkr.sl ZY.ok s5;clear az;obtain⟨b,o,y,rfl,-,hy,q0,q1,q2,q3,r1,r2,r3⟩:=hsl.aaT hlt;have hsn:=hd0 (aN bF f.ZA k y hy.out);have hle:=aH bF f.ZA k y hy.out;have hll:(T0++(f.ZA.take k).flatMap bF).length+(bF y).length<=10000000000:=by simp only[la];omega
   obtain⟨y0,y1,y2,y3⟩:=y;dsimp only at q0 q1 q2 q3 r1 r2 r3;have og:(T0++(f.ZA.take k).flatMap bF).length+(ai iE [y0,af y1,af y2,af y3]).length<=10000000000:=hll;clear hy hle hll hsl;go_wp2_with fail
   obtain⟨W2,hW2⟩:∃W2,wr.alloc (.cells #[.string ⟨y0.toArray⟩,.int .i64 y1,.int .i64 y2,.int .i64 y3] 84)=W2:=⟨_,rfl⟩
   rw[hW2];have hb0:Below wr.heap.size wr W2:=by rw[<-hW2];exact(aa0 _ _).alloc (ag _) _
   have BV:Bk W2 wr.heap.size 84 #[.string ⟨y0.toArray⟩,.int .i64 y1,.int .i64 y2,.int .i64 y3]:=by rw[<-hW2];exact Bk.new _ _ _
   have zk:=hb0.size;clear hW2 q0 q1 q2 q3;have hT2:=hTr.all hb0;have hP2:=jK.below hb0;have lG:=hpr.below hb0;have v0:W2.cell? ⟨wr.heap.size,0,none⟩=some (.string ⟨y0.toArray⟩):=BV.cell 0;have v1:W2.cell? ⟨wr.heap.size,1,none⟩=some (.int .i64 y1):=BV.cell 1;have v2:W2.cell? ⟨wr.heap.size,2,none⟩=some (.int .i64 y2):=BV.cell 2;have v3:W2.cell? ⟨wr.heap.size,3,none⟩=some (.int .i64 y3):=BV.cell 3
   go_region_held3 (fun w'=>w'.cell? ⟨wr.heap.size,0,none⟩=some (.string ⟨y0.toArray⟩)/\w'.cell? ⟨wr.heap.size,1,none⟩=some (.int .i64 y1)/\w'.cell? ⟨wr.heap.size,2,none⟩=some (.int .i64 y2)/\w'.cell? ⟨wr.heap.size,3,none⟩=some (.int .i64 y3))
    (first
     |exact⟨(hkz.bk (BV.below hc3) (by decide) (by decide)).cell 0,(hkz.bk (BV.below hc3) (by decide) (by decide)).cell 1,(hkz.bk (BV.below hc3) (by decide) (by decide)).cell 2,(hkz.bk (BV.below hc3) (by decide) (by decide)).cell 3⟩
     |exact⟨aS _ (ae hc3 v0),aS _ (ae hc3 v1),aS _ (ae hc3 v2),aS _ (ae hc3 v3)⟩
     |exact⟨ae hc3 v0,ae hc3 v1,ae hc3 v2,ae hc3 v3⟩
     |exact⟨ae hc2 v0,ae hc2 v1,ae hc2 v2,ae hc2 v3⟩
     |exact⟨ae hc1 v0,ae hc1 v1,ae hc1 v2,ae hc1 v3⟩
     |go_keep)
    (first
     |(go_at_call 21;refine(aA _ y1 hT2.drew r1).mono ?_;rintro e w1 ⟨rfl,hb1⟩;have hc1:=dW hb1;have z1:=hc1.size)
     |(go_at_call 21;refine(aA _ y2 (hT2.all hc1) r2).mono ?_;rintro e w2 ⟨rfl,hb2⟩;have hc2:=bt hc1 hb2;have z2:=hc2.size)
     |(go_at_call 21;refine(aA _ y3 (hT2.all hc2) r3).mono ?_;rintro e w3 ⟨rfl,hb3⟩;have hc3:=bt hc2 hb3;have z3:=hc3.size)
     |(go_at_call 20;refine(fG w3 w3.heap.size 4 rfl w.heap.size (w.heap.size+1) fc _ iE [y0,af y1,af y2,af y3] rfl (lG.below hc3) og).mono ?_;rintro e wz ⟨rfl,hpz,hkz,hbz⟩))
   go_wp2;go_roundw
   case rel=>exact⟨k+1,by omega,by simp,by rw[hsn.out,<-abe];exact hpz,aG.out.2.1.trans ((KP.below (bt hb0 hc3)).trans hkz),aG.out.2.2.trans (((bt hb0 hc3).mono (by omega)).trans hbz)⟩
   case measure=>simp[intOf];omega
  obtain rfl:k=f.ZA.length:=by omega
  rw[aa6] at aG;clear hkr gB;have Wj:wr.cell? ⟨w.heap.size,6,none⟩=some (.slice A6 f.regions.length c6):=(aG.out.2.1.bk B0 (by decide) (by decide)).cell 6;go_wp2_with fail
  go_loopw [52] (fun i wr=>∃k:Nat,k<=f.regions.length/\i= .int .i64 k/\jT w W0 w.heap.size (w.heap.size+1) fc (T0++f.ZA.flatMap bF++(f.regions.take k).flatMap aU) wr) (fun i _=>f.regions.length - (intOf i).toNat)
  case atStart=>exact⟨0,nz _,rfl,by simpa using aG.out⟩
  case round=>
   obtain⟨k,hk,rfl,az⟩:=hrel;clear Wj aG;have hkr:KP W0 wr:=az.2.1;have gB:=hkr.size;have aG:=hd0 az;by_cases hlt:k<f.regions.length
   ·have hkb:k<=10000000000:=nt (abH hlt) n6;have hTr:Tabs wr:=hT.below az.2.2 hG;have jK:PN wr (w.heap.size+1) f.Zt:=hP0.kp hp0 az.1 hkr;have hpr:=az.1;have hsl:=hkr.sl ZJ.ok s6;clear az;obtain⟨b,o,y,E0,e0,rfl,-,hy,q0,j0⟩:=hsl.region hlt;have hsn:=hd0 (aN aU f.regions k y hy.out);have hle:=aH aU f.regions k y hy.out;have hll:(T0++f.ZA.flatMap bF++(f.regions.take k).flatMap aU).length+(aU y).length<=10000000000:=by simp only[la];omega
    obtain⟨y⟩:=y;dsimp only at q0 j0;have hyl:y.length<=10000000000:=by have h1:=sG y;have h2:=fE dH (y.flatMap eP);have h3:aU ⟨y⟩=ai dH (y.flatMap eP):=rfl;rw[h3] at hle;omega
    have hba:Below wr.heap.size wr (wr.alloc (.cells #[.slice E0 y.length e0] 89)):=(aa0 _ _).alloc (ag _) _;have hka:=KP.below hba;have hR:=hd0 (Ep _ w.heap.size (w.heap.size+1) fc _ E0 e0 y (hTr.all hba) (hpr.below hba) (nt Qz (nt gB hba.size)) (hka.sl aaq.ok j0) hyl (nt hll (by decide)));have uw:=hd0 hka;have ul:=hd0 hba;clear hy hle hll hsl hka hba hTr jK hpr;go_wp2_with (go_at_call 22;refine hR.out.mono ?_;rintro e wz ⟨rfl,hpz,hkz,hbz⟩)
    go_roundw
    case rel=>exact⟨k+1,by omega,by simp,by rw[hsn.out,<-abe];exact hpz,aG.out.2.1.trans (uw.out.trans hkz),aG.out.2.2.trans ((ul.out.mono (by omega)).trans hbz)⟩
    case measure=>simp[intOf];omega
   obtain rfl:k=f.regions.length:=by omega
   rw[aa6] at aG;clear hkr gB;have l8:wr.cell? ⟨w.heap.size,8,none⟩=some (.slice A8 f.ZB.length c8):=(aG.out.2.1.bk B0 (by decide) (by decide)).cell 8
   go_upto_if 63 with fail
   go_cut [3,63] from 64 to 68 (fun s3 _ wx=>s3= .pointer (some ⟨w.heap.size+1,0,none⟩)/\jT w W0 w.heap.size (w.heap.size+1) fc (T0++f.ZA.flatMap bF++f.regions.flatMap aU++dZ f.ZB) wx)
   case first=>
    have az:=aG.out;have hkr:KP W0 wr:=az.2.1;have gB:=hkr.size;have hTr:Tabs wr:=hT.below az.2.2 hG;have hpr:=az.1;have hsl:=hkr.sl Zx.ok s8;clear az;by_cases h0:f.ZB=[]
    ·have hz:dZ f.ZB=[]:=by rw[h0];rfl
     have hz0:¬(0<f.ZB.length):=by rw[h0];simp
     have Hz:=hd0 hz;clear hz h0;go_wp2_with fail
     go_meet
     rw[Hz.out,abw];exact⟨rfl,aG.out⟩
    have hz:dZ f.ZB=ai fH (f.ZB.map af):=by unfold dZ;rw[if_neg (by simpa using h0)]
    have hz0:0<f.ZB.length:=abN.2 h0;have hw1:=fE fH (f.ZB.map af);have og:(T0++f.ZA.flatMap bF++f.regions.flatMap aU).length+(ai fH (f.ZB.map af)).length<=10000000000:=by rw[<-hz];simp only[la];omega
    have hyl:f.ZB.length<=10000000000:=by rw[aa7] at hw1;omega
    have hnl:Hid (f.ZB.length=(f.ZB.map af).length):=hd0 (aa7 af).symm;have yP:Hid ((T0++f.ZA.flatMap bF++f.regions.flatMap aU).length+(ai fH (f.ZB.map af)).length<=1000000000000/\(f.ZB.map af).length<=1000000000000):=hd0 ⟨by omega,by omega⟩;have hI:=hd0 (lJ wr A8 c8 f.ZB hTr hsl (by omega));have Hz:=hd0 hz;clear hz h0 og hw1;go_wp2_with (first
     |(go_at_call 23;refine hI.out.mono ?_;rintro e w1 ⟨Aw,cw,rfl,how,hb1⟩;have z1:=hb1.size)
     |(go_at_call 20;refine(gZ w1 w.heap.size (w.heap.size+1) fc _ fH Aw cw f.ZB.length (f.ZB.map af) hnl.out (hpr.below hb1) (fM how) yP.out).mono ?_;rintro e wz ⟨rfl,hpz,hkz,hbz⟩))
    go_meet
    rw[Hz.out];exact⟨rfl,hpz,aG.out.2.1.trans ((KP.below hb1).trans hkz),aG.out.2.2.trans ((hb1.mono (by omega)).trans hbz)⟩
   case rest=>
    obtain⟨rfl,az⟩:=hcut;clear aG l8;have aG:=hd0 az;clear az;have XA:wc.cell? ⟨w.heap.size,7,none⟩=some (.slice A7 f.funcs.length c7):=(aG.out.2.1.bk B0 (by decide) (by decide)).cell 7;go_wp2_with fail
    go_loopw [72] (fun i wr=>∃k:Nat,k<=f.funcs.length/\i= .int .i64 k/\jT w W0 w.heap.size (w.heap.size+1) fc (T0++f.ZA.flatMap bF++f.regions.flatMap aU++dZ f.ZB++(f.funcs.take k).flatMap df) wr) (fun i _=>f.funcs.length - (intOf i).toNat)
    case atStart=>exact⟨0,nz _,rfl,by simpa using aG.out⟩
    case round=>
     obtain⟨k,hk,rfl,az⟩:=hrel;clear XA aG;have hkr:KP W0 wr:=az.2.1;have gB:=hkr.size;have aG:=hd0 az;by_cases hlt:k<f.funcs.length
     ·have hkb:k<=10000000000:=nt (abH hlt) n7;have hTr:Tabs wr:=hT.below az.2.2 hG;have jK:PN wr (w.heap.size+1) f.Zt:=hP0.kp hp0 az.1 hkr;have hpr:=az.1;have hsl:=hkr.sl ZW.ok s7;clear az;obtain⟨b,o,y,E0,e0,rfl,-,hy,q0,j0⟩:=hsl.code hlt;have hsn:=hd0 (aN df f.funcs k y hy.out);have hle:=aH df f.funcs k y hy.out;have hll:(T0++f.ZA.flatMap bF++f.regions.flatMap aU++dZ f.ZB++(f.funcs.take k).flatMap df).length+(df y).length<=10000000000:=by simp only[la];omega
      have hw1:=fE iW (y.map aX);have og:(T0++f.ZA.flatMap bF++f.regions.flatMap aU++dZ f.ZB++(f.funcs.take k).flatMap df).length+(ai iW (y.map aX)).length<=10000000000:=hll;have hyl:y.length<=10000000000:=by rw[aa7] at hw1;omega
      have hnl:Hid (y.length=(y.map aX).length):=hd0 (aa7 aX).symm;have Dq:(T0++f.ZA.flatMap bF++f.regions.flatMap aU++dZ f.ZB++(f.funcs.take k).flatMap df).length+(ai iW (y.map aX)).length<=1000000000000/\(y.map aX).length<=1000000000000:=⟨by omega,by omega⟩
      have yP:=hd0 Dq;have hI:=hd0 (lU wr E0 e0 y hTr j0 (by omega));clear hy hle hll hsl og hw1 Dq;go_wp2_with (first
       |(go_at_call 24;refine hI.out.mono ?_;rintro e w1 ⟨Aw,cw,rfl,how,hb1⟩;have z1:=hb1.size)
       |(go_at_call 20;refine(gZ w1 w.heap.size (w.heap.size+1) fc _ iW Aw cw y.length (y.map aX) hnl.out (hpr.below hb1) (fM how) yP.out).mono ?_;rintro e wz ⟨rfl,hpz,hkz,hbz⟩))
      go_roundw
      case rel=>exact⟨k+1,by omega,by simp,by rw[hsn.out,<-abe];exact hpz,aG.out.2.1.trans ((KP.below hb1).trans hkz),aG.out.2.2.trans ((hb1.mono (by omega)).trans hbz)⟩
      case measure=>simp[intOf];omega
     obtain rfl:k=f.funcs.length:=by omega
     rw[aa6] at aG;clear hkr gB;have Vy:wr.cell? ⟨w.heap.size,1,none⟩=some (.slice A1 f.Zt.length c1):=(aG.out.2.1.bk B0 (by decide) (by decide)).cell 1;go_wp2_with fail
     go_loopw [84] (fun i wr=>∃k:Nat,k<=f.Zt.length/\i= .int .i64 k/\jT w W0 w.heap.size (w.heap.size+1) fc (T0++f.ZA.flatMap bF++f.regions.flatMap aU++dZ f.ZB++f.funcs.flatMap df++(f.Zt.take k).flatMap (bi f.Zt)) wr) (fun i _=>f.Zt.length - (intOf i).toNat)
     case atStart=>exact⟨0,nz _,rfl,by simpa using aG.out⟩
     case round=>
      obtain⟨k,hk,rfl,az⟩:=hrel;clear Vy aG;have hkr:KP W0 wr:=az.2.1;have gB:=hkr.size;have aG:=hd0 az;by_cases hlt:k<f.Zt.length
      ·have hkb:k<=10000000000:=nt (abH hlt) n1;have hTr:Tabs wr:=hT.below az.2.2 hG;have jK:PN wr (w.heap.size+1) f.Zt:=hP0.kp hp0 az.1 hkr;have hpr:=az.1;have hsl:=hkr.sl ZK.ok s1;clear az;obtain⟨b,o,y,E3,e3,E4,e4,E5,e5,E6,e6,E7,e7,E8,e8,rfl,-,hy,q0,q1,q2,q3,q4,q5,q6,q7,q8,r1,j3,j4,j5,j6,j7,j8⟩:=hsl.ZF hlt;have hsn:=hd0 (aN (bi f.Zt) f.Zt k y hy.out);have hle:=aH (bi f.Zt) f.Zt k y hy.out;have hll:(T0++f.ZA.flatMap bF++f.regions.flatMap aU++dZ f.ZB++f.funcs.flatMap df++(f.Zt.take k).flatMap (bi f.Zt)).length+((bi f.Zt) y).length<=10000000000:=by simp only[la];omega
       obtain⟨hpn,hen⟩:=hS y (aa8 hy.out);have hhn:y.hint.length<=1000000000:=hH y (aa8 hy.out);have hba:Below wr.heap.size wr (wr.alloc (.cells #[.string ⟨y.name.toArray⟩,.int .i64 y.advance,.bool y.mark,.slice E3 y.points.length e3,.slice E4 y.ends.length e4,.slice E5 y.parts.length e5,.slice E6 y.anchors.length e6,.slice E7 y.deltas.length e7,.slice E8 y.hint.length e8] 57)):=(aa0 _ _).alloc (ag _) _;have hka:=KP.below hba;have hR:=hd0 (CE _ w.heap.size (w.heap.size+1) fc _ f.Zt E3 E4 E5 E6 E7 E8 e3 e4 e5 e6 e7 e8 y (hTr.all hba) hG (jK.below hba) hgl (hpr.below hba) (nt Qz (nt gB hba.size)) r1 (hka.sl PtR.ok j3) (hka.sl Zx.ok j4) (hka.sl aao.ok j5) (hka.sl aac.ok j6) (hka.sl aah.ok j7) (hka.sl ZQ.ok j8) hpn hen hhn hll);have uw:=hd0 hka;have ul:=hd0 hba;clear hy hle hll hsl hka hba hTr jK hpr;go_wp2_with (go_at_call 25;refine hR.out.mono ?_;rintro e wz ⟨rfl,hpz,hkz,hbz⟩)
       go_roundw
       case rel=>exact⟨k+1,by omega,by simp,by rw[hsn.out,<-abe];exact hpz,aG.out.2.1.trans (uw.out.trans hkz),aG.out.2.2.trans ((ul.out.mono (by omega)).trans hbz)⟩
       case measure=>simp[intOf];omega
      obtain rfl:k=f.Zt.length:=by omega
      rw[aa6] at aG;clear hkr gB;have Xg:wr.cell? ⟨w.heap.size,2,none⟩=some (.slice A2 f.chars.length c2):=(aG.out.2.1.bk B0 (by decide) (by decide)).cell 2;go_wp2_with fail
      go_loopw [95] (fun i wr=>∃k:Nat,k<=f.chars.length/\i= .int .i64 k/\jT w W0 w.heap.size (w.heap.size+1) fc (T0++f.ZA.flatMap bF++f.regions.flatMap aU++dZ f.ZB++f.funcs.flatMap df++f.Zt.flatMap (bi f.Zt)++(f.chars.take k).flatMap (eG f.Zt)) wr) (fun i _=>f.chars.length - (intOf i).toNat)
      case atStart=>exact⟨0,nz _,rfl,by simpa using aG.out⟩
      case round=>
       obtain⟨k,hk,rfl,az⟩:=hrel;clear Xg aG;have hkr:KP W0 wr:=az.2.1;have gB:=hkr.size;have aG:=hd0 az;by_cases hlt:k<f.chars.length
       ·have hkb:k<=10000000000:=nt (abH hlt) n2;have hTr:Tabs wr:=hT.below az.2.2 hG;have jK:PN wr (w.heap.size+1) f.Zt:=hP0.kp hp0 az.1 hkr;have hpr:=az.1;have hsl:=hkr.sl aai.ok s2;clear az;obtain⟨b,o,y,rfl,-,hy,q0,q1,r0,r1⟩:=hsl.chr hlt;have hsn:=hd0 (aN (eG f.Zt) f.chars k y hy.out);have hle:=aH (eG f.Zt) f.chars k y hy.out;have hll:(T0++f.ZA.flatMap bF++f.regions.flatMap aU++dZ f.ZB++f.funcs.flatMap df++f.Zt.flatMap (bi f.Zt)++(f.chars.take k).flatMap (eG f.Zt)).length+((eG f.Zt) y).length<=10000000000:=by simp only[la];omega
        obtain⟨y0,y1⟩:=y;dsimp only at q0 q1 r0 r1;have og:(T0++f.ZA.flatMap bF++f.regions.flatMap aU++dZ f.ZB++f.funcs.flatMap df++f.Zt.flatMap (bi f.Zt)++(f.chars.take k).flatMap (eG f.Zt)).length+(ai kC [af y0,aT f.Zt y1]).length<=10000000000:=hll;clear hy hle hll hsl;go_wp2_with fail
        obtain⟨W2,hW2⟩:∃W2,wr.alloc (.cells #[.int .i64 y0,.int .i64 y1] 74)=W2:=⟨_,rfl⟩
        rw[hW2];have hb0:Below wr.heap.size wr W2:=by rw[<-hW2];exact(aa0 _ _).alloc (ag _) _
        have BV:Bk W2 wr.heap.size 74 #[.int .i64 y0,.int .i64 y1]:=by rw[<-hW2];exact Bk.new _ _ _
        have zk:=hb0.size;clear hW2 q0 q1;have hT2:=hTr.all hb0;have hP2:=jK.below hb0;have lG:=hpr.below hb0;have v0:W2.cell? ⟨wr.heap.size,0,none⟩=some (.int .i64 y0):=BV.cell 0;have v1:W2.cell? ⟨wr.heap.size,1,none⟩=some (.int .i64 y1):=BV.cell 1
        go_region_held3 (fun w'=>w'.cell? ⟨wr.heap.size,0,none⟩=some (.int .i64 y0)/\w'.cell? ⟨wr.heap.size,1,none⟩=some (.int .i64 y1))
         (first
          |exact⟨(hkz.bk (BV.below hc2) (by decide) (by decide)).cell 0,(hkz.bk (BV.below hc2) (by decide) (by decide)).cell 1⟩
          |exact⟨aS _ (ae hc2 v0),aS _ (ae hc2 v1)⟩
          |exact⟨ae hc2 v0,ae hc2 v1⟩
          |exact⟨ae hc1 v0,ae hc1 v1⟩
          |go_keep)
         (first
          |(go_at_call 21;refine(aA _ y0 hT2.drew r0).mono ?_;rintro e w1 ⟨rfl,hb1⟩;have hc1:=dW hb1;have z1:=hc1.size)
          |(go_at_call 26;refine(ou _ (w.heap.size+1) f.Zt y1 (hT2.all hc1) r1 (hP2.below hc1) hgl).mono ?_;rintro e w2 ⟨rfl,hb2⟩;have hc2:=bt hc1 hb2;have z2:=hc2.size)
          |(go_at_call 20;refine(fG w2 w2.heap.size 2 rfl w.heap.size (w.heap.size+1) fc _ kC [af y0,aT f.Zt y1] rfl (lG.below hc2) og).mono ?_;rintro e wz ⟨rfl,hpz,hkz,hbz⟩))
        go_wp2;go_roundw
        case rel=>exact⟨k+1,by omega,by simp,by rw[hsn.out,<-abe];exact hpz,aG.out.2.1.trans ((KP.below (bt hb0 hc2)).trans hkz),aG.out.2.2.trans (((bt hb0 hc2).mono (by omega)).trans hbz)⟩
        case measure=>simp[intOf];omega
       obtain rfl:k=f.chars.length:=by omega
       rw[aa6] at aG;clear hkr gB;have UL:wr.cell? ⟨w.heap.size,3,none⟩=some (.slice A3 f.Zu.length c3):=(aG.out.2.1.bk B0 (by decide) (by decide)).cell 3;go_wp2_with fail
       go_loopw [113] (fun i wr=>∃k:Nat,k<=f.Zu.length/\i= .int .i64 k/\jT w W0 w.heap.size (w.heap.size+1) fc (T0++f.ZA.flatMap bF++f.regions.flatMap aU++dZ f.ZB++f.funcs.flatMap df++f.Zt.flatMap (bi f.Zt)++f.chars.flatMap (eG f.Zt)++(f.Zu.take k).flatMap (bf f.Zt)) wr) (fun i _=>f.Zu.length - (intOf i).toNat)
       case atStart=>exact⟨0,nz _,rfl,by simpa using aG.out⟩
       case round=>
        obtain⟨k,hk,rfl,az⟩:=hrel;clear UL aG;have hkr:KP W0 wr:=az.2.1;have gB:=hkr.size;have aG:=hd0 az;by_cases hlt:k<f.Zu.length
        ·have hkb:k<=10000000000:=nt (abH hlt) n3;have hTr:Tabs wr:=hT.below az.2.2 hG;have jK:PN wr (w.heap.size+1) f.Zt:=hP0.kp hp0 az.1 hkr;have hpr:=az.1;have hsl:=hkr.sl ZE.ok s3;clear az;obtain⟨b,o,y,E2,e2,rfl,-,hy,q0,q1,q2,r0,j2⟩:=hsl.lookup hlt;have hsn:=hd0 (aN (bf f.Zt) f.Zu k y hy.out);have hle:=aH (bf f.Zt) f.Zu k y hy.out;have hll:(T0++f.ZA.flatMap bF++f.regions.flatMap aU++dZ f.ZB++f.funcs.flatMap df++f.Zt.flatMap (bi f.Zt)++f.chars.flatMap (eG f.Zt)++(f.Zu.take k).flatMap (bf f.Zt)).length+((bf f.Zt) y).length<=10000000000:=by simp only[la];omega
         have hrl:y.rules.length<=10000000000:=by have h1:=fP (gK f.Zt y.kind) (fun _=>dQ _ _) y.rules;have h2:bf f.Zt y=ai dB (pick aK y.kind::if y.aae then [iK] else [])++y.rules.flatMap (gK f.Zt y.kind):=rfl;rw[h2,la] at hle;omega
         have hba:Below wr.heap.size wr (wr.alloc (.cells #[.int .i64 y.kind,.bool y.aae,.slice E2 y.rules.length e2] 60)):=(aa0 _ _).alloc (ag _) _;have hka:=KP.below hba;have hR:=hd0 (Gs _ w.heap.size (w.heap.size+1) fc _ f.Zt E2 e2 y (hTr.all hba) hG (jK.below hba) hgl (hpr.below hba) (nt Qz (nt gB hba.size)) (hka.sl ZP.ok j2) hrl hll);have uw:=hd0 hka;have ul:=hd0 hba;clear hy hle hll hsl hka hba hTr jK hpr;go_wp2_with (go_at_call 27;refine hR.out.mono ?_;rintro e wz ⟨rfl,hpz,hkz,hbz⟩)
         go_roundw
         case rel=>exact⟨k+1,by omega,by simp,by rw[hsn.out,<-abe];exact hpz,aG.out.2.1.trans (uw.out.trans hkz),aG.out.2.2.trans ((ul.out.mono (by omega)).trans hbz)⟩
         case measure=>simp[intOf];omega
        obtain rfl:k=f.Zu.length:=by omega
        rw[aa6] at aG;clear hkr gB;have Vj:wr.cell? ⟨w.heap.size,4,none⟩=some (.slice A4 f.features.length c4):=(aG.out.2.1.bk B0 (by decide) (by decide)).cell 4;go_wp2_with fail
        go_loopw [124] (fun i wr=>∃k:Nat,k<=f.features.length/\i= .int .i64 k/\jT w W0 w.heap.size (w.heap.size+1) fc (T0++f.ZA.flatMap bF++f.regions.flatMap aU++dZ f.ZB++f.funcs.flatMap df++f.Zt.flatMap (bi f.Zt)++f.chars.flatMap (eG f.Zt)++f.Zu.flatMap (bf f.Zt)++(f.features.take k).flatMap dG) wr) (fun i _=>f.features.length - (intOf i).toNat)
        case atStart=>exact⟨0,nz _,rfl,by simpa using aG.out⟩
        case round=>
         obtain⟨k,hk,rfl,az⟩:=hrel;clear Vj aG;have hkr:KP W0 wr:=az.2.1;have gB:=hkr.size;have aG:=hd0 az;by_cases hlt:k<f.features.length
         ·have hkb:k<=10000000000:=nt (abH hlt) n4;have hTr:Tabs wr:=hT.below az.2.2 hG;have jK:PN wr (w.heap.size+1) f.Zt:=hP0.kp hp0 az.1 hkr;have hpr:=az.1;have hsl:=hkr.sl ZH.ok s4;clear az;obtain⟨b,o,y,E1,e1,rfl,-,hy,q0,q1,j1⟩:=hsl.aaN hlt;have hsn:=hd0 (aN dG f.features k y hy.out);have hle:=aH dG f.features k y hy.out;have hll:(T0++f.ZA.flatMap bF++f.regions.flatMap aU++dZ f.ZB++f.funcs.flatMap df++f.Zt.flatMap (bi f.Zt)++f.chars.flatMap (eG f.Zt)++f.Zu.flatMap (bf f.Zt)++(f.features.take k).flatMap dG).length+(dG y).length<=10000000000:=by simp only[la];omega
          obtain⟨y0,y1⟩:=y;dsimp only at q0 q1 j1;have hw1:=fE dY (y0::y1.map af);have og:(T0++f.ZA.flatMap bF++f.regions.flatMap aU++dZ f.ZB++f.funcs.flatMap df++f.Zt.flatMap (bi f.Zt)++f.chars.flatMap (eG f.Zt)++f.Zu.flatMap (bf f.Zt)++(f.features.take k).flatMap dG).length+(ai dY (y0::y1.map af)).length<=10000000000:=hll;have hyl:y1.length<=10000000000:=by simp only[lc,aa7] at hw1;omega
          have hnl:Hid (1+y1.length=(y0::y1.map af).length):=hd0 (by simp;omega);have yP:Hid ((T0++f.ZA.flatMap bF++f.regions.flatMap aU++dZ f.ZB++f.funcs.flatMap df++f.Zt.flatMap (bi f.Zt)++f.chars.flatMap (eG f.Zt)++f.Zu.flatMap (bf f.Zt)++(f.features.take k).flatMap dG).length+(ai dY (y0::y1.map af)).length<=1000000000000/\(y0::y1.map af).length<=1000000000000):=hd0 ⟨by omega,by omega⟩;clear hy hle hll hsl og hw1;have hkj:=hkr;go_wp2_with fail
          obtain⟨W2,hW2⟩:∃W2,wr.alloc (.cells #[.string ⟨y0.toArray⟩,.slice E1 y1.length e1] 82)=W2:=⟨_,rfl⟩
          rw[hW2];have hb0:Below wr.heap.size wr W2:=by rw[<-hW2];exact(aa0 _ _).alloc (ag _) _
          have BV:Bk W2 wr.heap.size 82 #[.string ⟨y0.toArray⟩,.slice E1 y1.length e1]:=by rw[<-hW2];exact Bk.new _ _ _
          have zk:=hb0.size;clear hW2 q0 q1;have lG:=hpr.below hb0;have hT2:=hTr.all hb0;have hsB:=(KP.below hb0).sl Zx.ok j1;have hbL:Below W2.heap.size W2 (W2.alloc (.cells #[.string ⟨y0.toArray⟩] 9)):=(aa0 _ _).alloc (ag _) _;have hTA:=(hT2.all hbL).drew;have hTB:=hT2.drew;have hsA:Sl Zx 1 (W2.alloc (.cells #[.string ⟨y0.toArray⟩] 9)).drew (FT (W2.alloc (.cells #[.string ⟨y0.toArray⟩] 9)).drew) E1 y1:=(KP.below (aa0 _ _).drew).sl Zx.ok ((KP.below hbL).sl Zx.ok hsB);have Um:Sl Zx 1 W2.drew (FT W2.drew) E1 y1:=(KP.below (aa0 _ _).drew).sl Zx.ok hsB;have NR:y1.length<=100000000000:=by omega
          have Qy:1+y1.length<=1000000000000:=by omega
          have v0:W2.cell? ⟨wr.heap.size,0,none⟩=some (.string ⟨y0.toArray⟩):=BV.cell 0;have v1:W2.cell? ⟨wr.heap.size,1,none⟩=some (.slice E1 y1.length e1):=BV.cell 1;have WY:(W2.alloc (.cells #[.string ⟨y0.toArray⟩] 9)).ownsRow W2.heap.size 9 1 (.slice (some ⟨W2.heap.size,0,none⟩) 1 1) 1 [.string ⟨y0.toArray⟩]:=Bz W2 _ y0 (ag _);have WT:=hd0 hbL;clear hbL
          go_region_held3 (fun w'=>w'.cell? ⟨wr.heap.size,0,none⟩=some (.string ⟨y0.toArray⟩)/\w'.cell? ⟨wr.heap.size,1,none⟩=some (.slice E1 y1.length e1))
           (first
            |exact⟨(hkz.bk (BV.below hcz) (by decide) (by decide)).cell 0,(hkz.bk (BV.below hcz) (by decide) (by decide)).cell 1⟩
            |exact⟨ae hcz v0,ae hcz v1⟩
            |exact⟨aS _ (ae hcB v0),aS _ (ae hcB v1)⟩
            |exact⟨ae hcA v0,ae hcA v1⟩
            |exact⟨ae hcB v0,ae hcB v1⟩
            |go_keep)
           (first
            |(go_at_call 23;refine(lJ (W2.alloc (.cells #[.string ⟨y0.toArray⟩] 9)).drew E1 e1 y1 hTA hsA NR).mono ?_;rintro e w1 ⟨Aw,cw,rfl,how,hb1⟩;have hc1:=dW hb1;have hcA:=bt WT.out hc1;have z1:=hcA.size;have Rl:=own_below WY hc1;have WS:=cZ how (aa7 af))
            |(go_at_call 23;refine(lJ W2.drew E1 e1 y1 hTB Um NR).mono ?_;rintro e w1 ⟨Aw,cw,rfl,how,hb1⟩;have hcB:=dW hb1;have z1:=hcB.size;have TI:=Bz w1 W2.heap.size y0 z1;have WL:=GG (o:=(.cells #[.string ⟨y0.toArray⟩] 9)) (cZ how (aa7 af)))
            |(refine zC (by rfl) (.tmp 131) (.tmp 134) (by rfl) w1 W2.heap.size 1 1 _ _ w1.heap.size Aw y1.length cw (y1.map af) (by go_simp) (by go_simp) Rl WS Qy z1 ?_;intro A4 c4 w4 ho4 hg4;have hcz:=hcA.grown hg4 z1 (fun g e=>(Rl.lt g e).1))
            |(refine zC (by rfl) (.tmp 131) (.tmp 134) (by rfl) _ W2.heap.size 1 1 _ _ _ Aw y1.length cw (y1.map af) (by go_simp) (by go_simp) TI WL Qy (yw z1) ?_;intro A4 c4 w4 ho4 hg4;have hcz:=(hcB.alloc z1 _).grown hg4 (yw z1) (fun g e=>(TI.lt g e).1))
            |(go_at_call 20;refine(gZ w4 w.heap.size (w.heap.size+1) fc _ dY A4 c4 (1+y1.length) (y0::y1.map af) hnl.out (lG.below hcz) (fM (ws:=y0::y1.map af) ho4) yP.out).mono ?_;rintro e wz ⟨rfl,hpz,hkz,hbz⟩))
          all_goals
           go_wp2;go_roundw
           case rel=>exact⟨k+1,by omega,by simp,by rw[hsn.out,<-abe];exact hpz,aG.out.2.1.trans ((KP.below (bt hb0 hcz)).trans hkz),aG.out.2.2.trans (((bt hb0 hcz).mono (by omega)).trans hbz)⟩
           case measure=>simp[intOf];omega
         obtain rfl:k=f.features.length:=by omega
         rw[aa6] at aG;clear hkr gB;obtain⟨TT,TJ⟩:∃TT,T0++f.ZA.flatMap bF++f.regions.flatMap aU++dZ f.ZB++f.funcs.flatMap df++f.Zt.flatMap (bi f.Zt)++f.chars.flatMap (eG f.Zt)++f.Zu.flatMap (bf f.Zt)++f.features.flatMap dG=TT:=⟨_,rfl⟩
         have hpr:=aG.out.1;have hbl:=aG.out.2.2;rw[TJ] at hpr hne HF;clear TJ aG;go_wp2_with (go_at_call 28;refine(DZ wr w.heap.size (w.heap.size+1) fc _ hpr hne.out).mono ?_;rintro e wz ⟨rfl,hbz⟩)
         go_ret
         rw[HF.out];exact⟨rfl,hbl.trans hbz⟩
end Go.Proofs.YtkijckccfookeaaDoor
