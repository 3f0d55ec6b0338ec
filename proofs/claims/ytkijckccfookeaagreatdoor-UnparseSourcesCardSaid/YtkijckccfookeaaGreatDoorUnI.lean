/- Lemmas. -/
import Derived.Test.YtkijckccfookeaaGreatDoorUnH
set_option linter.unusedVariables false
set_option linter.unusedSimpArgs false
set_option maxRecDepth 100000
set_option maxHeartbeats 32000000
namespace Go.Proofs.YtkijckccfookeaaGreatDoor
open Go.RowKit Go.Shelf Go.Sort
def jD (l:List Int):B:=if l.isEmpty then [] else au kF (l.map ag)
theorem LD (f:Fnt):kw f=au jK [ag f.unit]++f.ahQ.flatMap dX++f.regions.flatMap bY++jD f.cvt++f.funcs.flatMap gG++f.ahO.flatMap (dO f.ahO)++f.chars.flatMap (jL f.ahO)++f.ahP.flatMap (dJ f.ahO)++f.features.flatMap iI:=rfl
def aep (l:List Value)(i:Nat):Value:=l.getD i undef
theorem RQ (gs:List ahR)(x:ahR):1<=(dO gs x).length:=by rw[zB];have:1<=(SH x).length:=jm _ _;simp only[la];omega
theorem ZG (gs:List ahR)(x:ahR):x.hint.length<=(dO gs x).length:=by
 rw[zB];simp only[la];unfold BU;split
 ·rename_i h;have:x.hint=[]:=by simpa using h
  rw[this];simp
 have:=kE kP (x.hint.map dw);rw[aks] at this;omega
theorem V7 {α:Type}(f:α->B)(l:List α)(x:α)(h:x∈l):(f x).length<=(l.flatMap f).length:=by obtain⟨k,hk⟩:=akG.1 h;have:=bC f l k x hk;omega
theorem NC (gs:List ahR)(x:Lookup):1<=(dJ gs x).length:=by unfold dJ;have:=jm fH (pick az x.kind::if x.aik then [eP] else []);rw[la];omega
theorem L6 {ops:Array Oper}{o:Oper}{a:Act}{K:Act->World->Prop}{Q:Exit->Act->World->Prop}{E:Prop}(hgd:o.guard=none)(s x:Operand)
  (ho:o.op= .call {callee:= .builtin .append,args:= #[s,x],argTypes:= #[48,48]})
  (w1:World) (base n c:Nat) (A:Option Addr) (xs:List Value) (Bd:Nat) (A2:Option Addr) (m c2:Nat) (ws:List B) (hs:a.eval s= .slice A n c) (hx:a.eval x= .slice A2 m c2)
  (hown:w1.ownsRow base 9 1 (.slice A n c) n xs) (hr:Rd w1 Bd A2 m 1 (strs ws)) (hn:n+m<=1000000000000) (hb:base<=w1.heap.size)
  (h:∀A' c' w',w'.ownsRow base 9 1 (.slice A' (n+m) c') (n+m) (xs++strs ws)->w1.grownBy w' (Value.slice A n c).ownBlock->K (a.put o.dst (.slice A' (n+m) c')) w'):
  if Region.wanted o (yielded ops a.tmps)=true then Oper.wp Tryz.prog o a w1 K Q else E:=by
 obtain⟨i0,hi0,hz0,hz1,hz2⟩:=info_parts BN;refine jY _ hgd s x 48 ho base 9 i0 _ 1 16 Tryz.underlying48 hi0 hz0 hz1 hz2 rfl (by decide) (.slice A n c) n xs hs hown Bd A2 m c2 (strs ws) hx hr (DF ws) (by simp only[maxLen];omega) (by omega) hb ?_;intro v' w' ho' hg _;obtain⟨A',c',rfl⟩:=yl ho';exact h A' c' w' ho' hg
theorem Oi (w:World)(base:Nat)(y:B)(h:base<=w.heap.size):(w.alloc (.cells #[.string ⟨y.toArray⟩] 9)).ownsRow base 9 1 (.slice (some ⟨w.heap.size,0,none⟩) 1 1) 1 [.string ⟨y.toArray⟩]:=⟨rfl,.inr ⟨w.heap.size,1,#[.string ⟨y.toArray⟩],rfl,h,heap_alloc_new w _,nr _,by decide,rfl,rfl⟩⟩
theorem VD {w:World}{A:Option Addr}{n size:Nat}{cs:List Value}{o:Obj}(h:Rd w w.heap.size A n size cs):Rd (w.alloc o) w.heap.size A n size cs:=h.alloc (nr _) o
theorem MN {w:World}{o:Obj}{n:Nat}(h:n<=w.heap.size):n<=(w.alloc o).heap.size:=by simp;omega
theorem FB (w:World)(f:Fnt) A1 A2 A3 A4 A5 A6 A7 A8 c1 c2 c3 c4 c5 c6 c7 c8 (hT:Tabs w) (hG:nG<=w.heap.size) (r0:I64 f.unit) (s1:Sl ahW 9 w (FT w) A1 f.ahO) (s2:Sl ait 2 w (FT w) A2 f.chars) (s3:Sl ah1 3 w (FT w) A3 f.ahP) (s4:Sl ah2 2 w (FT w) A4 f.features) (s5:Sl aij 4 w (FT w) A5 f.ahQ) (s6:Sl ah7 1 w (FT w) A6 f.regions) (s7:Sl aih 1 w (FT w) A7 f.funcs) (s8:Sl ahT 1 w (FT w) A8 f.cvt)
  (hS:∀g∈f.ahO,g.points.length<=1000000000/\g.ends.length<=1000000000) (hL:(kw f).length<=1000000000):
  Calls Tryz.prog 20 #[.agg #[.int .i64 f.unit,.slice A1 f.ahO.length c1,.slice A2 f.chars.length c2,.slice A3 f.ahP.length c3,.slice A4 f.features.length c4,.slice A5 f.ahQ.length c5,.slice A6 f.regions.length c6,.slice A7 f.funcs.length c7,.slice A8 f.cvt.length c8]] w fun e w'=>e= .returned (.string ⟨(kw f).toArray⟩)/\Below w.heap.size w w':=by
 have HF:=hd0 (LD f);rw[LD] at hL;obtain⟨T0,Sj⟩:∃T0,au jK [ag f.unit]=T0:=⟨_,rfl⟩
 rw[Sj] at hL HF;have HT0:=hd0 Sj;have acQ:T0.length+(f.ahQ.flatMap dX).length+(f.regions.flatMap bY).length+(jD f.cvt).length+(f.funcs.flatMap gG).length+(f.ahO.flatMap (dO f.ahO)).length+(f.chars.flatMap (jL f.ahO)).length+(f.ahP.flatMap (dJ f.ahO)).length+(f.features.flatMap iI).length<=1000000000:=by simp only[la] at hL;omega
 have hne:Hid (T0++f.ahQ.flatMap dX++f.regions.flatMap bY++jD f.cvt++f.funcs.flatMap gG++f.ahO.flatMap (dO f.ahO)++f.chars.flatMap (jL f.ahO)++f.ahP.flatMap (dJ f.ahO)++f.features.flatMap iI≠[]):=hd0 (by
  intro h;have:=congrArg List.length h;rw[<-Sj] at this;have h2:=jm jK [ag f.unit];simp only[la,ln] at this;omega)
 clear Sj hL;have n1:f.ahO.length<=10000000000:=by have:=kV (dO f.ahO) (RQ f.ahO) f.ahO;omega
 have n2:f.chars.length<=10000000000:=by have:=kV (jL f.ahO) (fun _=>jm _ _) f.chars;omega
 have n3:f.ahP.length<=10000000000:=by have:=kV (dJ f.ahO) (NC f.ahO) f.ahP;omega
 have n4:f.features.length<=10000000000:=by have:=kV iI (fun _=>jm _ _) f.features;omega
 have n5:f.ahQ.length<=10000000000:=by have:=kV dX (fun _=>jm _ _) f.ahQ;omega
 have n6:f.regions.length<=10000000000:=by have:=kV bY (fun _=>jm _ _) f.regions;omega
 have n7:f.funcs.length<=10000000000:=by have:=kV gG (fun _=>jm _ _) f.funcs;omega
 have hgl:f.ahO.length<=1000000000000:=by omega
 have hH:∀y∈f.ahO,y.hint.length<=1000000000:=fun y hy=>by have h1:=ZG f.ahO y;have h2:=V7 (dO f.ahO) f.ahO y hy;omega
 have hS:=hd0 hS;have hH:=hd0 hH;go_enter Tryz.func20,Tryz.ntmps20
 go_upto_region 2 with fail
 obtain⟨W0,hW0⟩:∃W0,(w.alloc (.cells #[.int .i64 f.unit,.slice A1 f.ahO.length c1,.slice A2 f.chars.length c2,.slice A3 f.ahP.length c3,.slice A4 f.features.length c4,.slice A5 f.ahQ.length c5,.slice A6 f.regions.length c6,.slice A7 f.funcs.length c7,.slice A8 f.cvt.length c8] 32)).alloc (.cells #[.int .i64 f.unit,.slice A1 f.ahO.length c1,.slice A2 f.chars.length c2,.slice A3 f.ahP.length c3,.slice A4 f.features.length c4,.slice A5 f.ahQ.length c5,.slice A6 f.regions.length c6,.slice A7 f.funcs.length c7,.slice A8 f.cvt.length c8,.pointer none,.slice none 0 0] 130)=W0:=⟨_,rfl⟩
 rw[hW0];have hbW:Below w.heap.size w W0:=by rw[<-hW0];exact((akl _ _).alloc (nr _) _).alloc (by simp) _
 have B0:Bk W0 w.heap.size 32 #[.int .i64 f.unit,.slice A1 f.ahO.length c1,.slice A2 f.chars.length c2,.slice A3 f.ahP.length c3,.slice A4 f.features.length c4,.slice A5 f.ahQ.length c5,.slice A6 f.regions.length c6,.slice A7 f.funcs.length c7,.slice A8 f.cvt.length c8]:=by rw[<-hW0];exact(Bk.new _ _ _).alloc _
 have B1:Bk W0 (w.heap.size+1) 130 #[.int .i64 f.unit,.slice A1 f.ahO.length c1,.slice A2 f.chars.length c2,.slice A3 f.ahP.length c3,.slice A4 f.features.length c4,.slice A5 f.ahQ.length c5,.slice A6 f.regions.length c6,.slice A7 f.funcs.length c7,.slice A8 f.cvt.length c8,.pointer none,.slice none 0 0]:=by
  rw[<-hW0];have:=Bk.new (w.alloc (.cells #[.int .i64 f.unit,.slice A1 f.ahO.length c1,.slice A2 f.chars.length c2,.slice A3 f.ahP.length c3,.slice A4 f.features.length c4,.slice A5 f.ahQ.length c5,.slice A6 f.regions.length c6,.slice A7 f.funcs.length c7,.slice A8 f.cvt.length c8] 32)) 130 #[.int .i64 f.unit,.slice A1 f.ahO.length c1,.slice A2 f.chars.length c2,.slice A3 f.ahP.length c3,.slice A4 f.features.length c4,.slice A5 f.ahQ.length c5,.slice A6 f.regions.length c6,.slice A7 f.funcs.length c7,.slice A8 f.cvt.length c8,.pointer none,.slice none 0 0]
  rwa [World.size_alloc] at this
 obtain⟨fc,hfc⟩:∃fc:Nat->Value,PrC W0 (w.heap.size+1) fc (.pointer none) (.slice none 0 0):=⟨aep [.int .i64 f.unit,.slice A1 f.ahO.length c1,.slice A2 f.chars.length c2,.slice A3 f.ahP.length c3,.slice A4 f.features.length c4,.slice A5 f.ahQ.length c5,.slice A6 f.regions.length c6,.slice A7 f.funcs.length c7,.slice A8 f.cvt.length c8],B1⟩
 have z0:=hbW.size;have hwW:w.heap.size<=W0.heap.size:=z0;have hp0:Pr W0 w.heap.size (w.heap.size+1) fc []:=⟨_,_,by omega,hfc,.inl rfl,⟨rfl,.inl ⟨rfl,rfl⟩⟩⟩
 have hP0:PN W0 (w.heap.size+1) f.ahO:=⟨A1,c1,B1.cell 1,(KP.below hbW).sl ahW.ok s1⟩
 have hkW:=KP.below hbW;replace s1:=hkW.sl ahW.ok s1;replace s2:=hkW.sl ait.ok s2;replace s3:=hkW.sl ah1.ok s3;replace s4:=hkW.sl ah2.ok s4;replace s5:=hkW.sl aij.ok s5;replace s6:=hkW.sl ah7.ok s6;replace s7:=hkW.sl aih.ok s7;replace s8:=hkW.sl ahT.ok s8;have q0:W0.cell? ⟨w.heap.size,0,none⟩=some (.int .i64 f.unit):=B0.cell 0;have hnu:=hd0 (aS W0 f.unit (hT.all hbW) r0);have hlu:([]:B).length+(au jK [ag f.unit]).length<=10000000000:=by rw[HT0.out];simp only[ln];omega
 clear hW0 hfc hkW;go_wp2_with (first
  |(go_at_call 42;refine hnu.out.mono ?_;rintro e w1 ⟨rfl,hb1⟩)
  |(go_at_call 41;refine(kH w1 w1.heap.size 1 rfl w.heap.size (w.heap.size+1) fc [] jK [ag f.unit] rfl (hp0.below hb1) hlu).mono ?_;rintro e W1 ⟨rfl,hp1,hk1,aaX⟩;have l5:W1.cell? ⟨w.heap.size,5,none⟩=some (.slice A5 f.ahQ.length c5):=(hk1.bk (B0.below hb1) (by decide) (by decide)).cell 5))
 have bu:Hid (rq w W0 w.heap.size (w.heap.size+1) fc T0 W1):=by rw[HT0.out] at hp1;exact⟨hp1,(KP.below hb1).trans hk1,hbW.trans ((hb1.mono (by omega)).trans aaX)⟩
 clear q0 hnu hp1 hk1 aaX;have l30:W1.cell? ⟨w.heap.size,5,none⟩=some (.slice A5 f.ahQ.length c5):=(bu.out.2.1.bk B0 (by decide) (by decide)).cell 5;go_wp2_with fail
 go_loopw [30] (fun i wr=>∃k:Nat,k<=f.ahQ.length/\i= .int .i64 k/\rq w W0 w.heap.size (w.heap.size+1) fc (T0++(f.ahQ.take k).flatMap dX) wr) (fun i _=>f.ahQ.length - (intOf i).toNat)
 case atStart=>exact⟨0,nz _,rfl,by simpa using bu.out⟩
 case round=>
  obtain⟨k,hk,rfl,aO⟩:=hrel;clear l30 bu;have hkr:KP W0 wr:=aO.2.1;have iq:=hkr.size;have bu:=hd0 aO;by_cases hlt:k<f.ahQ.length
  ·have hkb:k<=10000000000:=nt (ak1 hlt) n5;have hTr:Tabs wr:=hT.below aO.2.2 hG;have qY:PN wr (w.heap.size+1) f.ahO:=hP0.kp hp0 aO.1 hkr;have hpr:=aO.1;have hsl:=hkr.sl aij.ok s5;clear aO;obtain⟨b,o,y,rfl,-,hy,q0,q1,q2,q3,r1,r2,r3⟩:=hsl.aje hlt;have hsn:=hd0 (bH dX f.ahQ k y hy.out);have hle:=bC dX f.ahQ k y hy.out;have hll:(T0++(f.ahQ.take k).flatMap dX).length+(dX y).length<=10000000000:=by simp only[la];omega
   obtain⟨y0,y1,y2,y3⟩:=y;dsimp only at q0 q1 q2 q3 r1 r2 r3;have xN:(T0++(f.ahQ.take k).flatMap dX).length+(au oW [y0,ag y1,ag y2,ag y3]).length<=10000000000:=hll;clear hy hle hll hsl;go_wp2_with fail
   obtain⟨W2,hW2⟩:∃W2,wr.alloc (.cells #[.string ⟨y0.toArray⟩,.int .i64 y1,.int .i64 y2,.int .i64 y3] 99)=W2:=⟨_,rfl⟩
   rw[hW2];have hb0:Below wr.heap.size wr W2:=by rw[<-hW2];exact(akl _ _).alloc (nr _) _
   have BV:Bk W2 wr.heap.size 99 #[.string ⟨y0.toArray⟩,.int .i64 y1,.int .i64 y2,.int .i64 y3]:=by rw[<-hW2];exact Bk.new _ _ _
   have Ku:=hb0.size;clear hW2 q0 q1 q2 q3;have hT2:=hTr.all hb0;have hP2:=qY.below hb0;have uT:=hpr.below hb0;have v0:W2.cell? ⟨wr.heap.size,0,none⟩=some (.string ⟨y0.toArray⟩):=BV.cell 0;have v1:W2.cell? ⟨wr.heap.size,1,none⟩=some (.int .i64 y1):=BV.cell 1;have v2:W2.cell? ⟨wr.heap.size,2,none⟩=some (.int .i64 y2):=BV.cell 2;have v3:W2.cell? ⟨wr.heap.size,3,none⟩=some (.int .i64 y3):=BV.cell 3
   go_region_held3 (fun w'=>w'.cell? ⟨wr.heap.size,0,none⟩=some (.string ⟨y0.toArray⟩)/\w'.cell? ⟨wr.heap.size,1,none⟩=some (.int .i64 y1)/\w'.cell? ⟨wr.heap.size,2,none⟩=some (.int .i64 y2)/\w'.cell? ⟨wr.heap.size,3,none⟩=some (.int .i64 y3))
    (first
     |exact⟨(hkz.bk (BV.below hc3) (by decide) (by decide)).cell 0,(hkz.bk (BV.below hc3) (by decide) (by decide)).cell 1,(hkz.bk (BV.below hc3) (by decide) (by decide)).cell 2,(hkz.bk (BV.below hc3) (by decide) (by decide)).cell 3⟩
     |exact⟨bU _ (ae hc3 v0),bU _ (ae hc3 v1),bU _ (ae hc3 v2),bU _ (ae hc3 v3)⟩
     |exact⟨ae hc3 v0,ae hc3 v1,ae hc3 v2,ae hc3 v3⟩
     |exact⟨ae hc2 v0,ae hc2 v1,ae hc2 v2,ae hc2 v3⟩
     |exact⟨ae hc1 v0,ae hc1 v1,ae hc1 v2,ae hc1 v3⟩
     |go_keep)
    (first
     |(go_at_call 42;refine(aS _ y1 hT2.drew r1).mono ?_;rintro e w1 ⟨rfl,hb1⟩;have hc1:=jF hb1;have z1:=hc1.size)
     |(go_at_call 42;refine(aS _ y2 (hT2.all hc1) r2).mono ?_;rintro e w2 ⟨rfl,hb2⟩;have hc2:=bt hc1 hb2;have z2:=hc2.size)
     |(go_at_call 42;refine(aS _ y3 (hT2.all hc2) r3).mono ?_;rintro e w3 ⟨rfl,hb3⟩;have hc3:=bt hc2 hb3;have z3:=hc3.size)
     |(go_at_call 41;refine(kH w3 w3.heap.size 4 rfl w.heap.size (w.heap.size+1) fc _ oW [y0,ag y1,ag y2,ag y3] rfl (uT.below hc3) xN).mono ?_;rintro e wz ⟨rfl,hpz,hkz,hbz⟩))
   go_wp2;go_roundw
   case rel=>exact⟨k+1,by omega,by simp,by rw[hsn.out,<-aky];exact hpz,bu.out.2.1.trans ((KP.below (bt hb0 hc3)).trans hkz),bu.out.2.2.trans (((bt hb0 hc3).mono (by omega)).trans hbz)⟩
   case measure=>simp[intOf];omega
  obtain rfl:k=f.ahQ.length:=by omega
  rw[akr] at bu;clear hkr iq;have l52:wr.cell? ⟨w.heap.size,6,none⟩=some (.slice A6 f.regions.length c6):=(bu.out.2.1.bk B0 (by decide) (by decide)).cell 6;go_wp2_with fail
  go_loopw [52] (fun i wr=>∃k:Nat,k<=f.regions.length/\i= .int .i64 k/\rq w W0 w.heap.size (w.heap.size+1) fc (T0++f.ahQ.flatMap dX++(f.regions.take k).flatMap bY) wr) (fun i _=>f.regions.length - (intOf i).toNat)
  case atStart=>exact⟨0,nz _,rfl,by simpa using bu.out⟩
  case round=>
   obtain⟨k,hk,rfl,aO⟩:=hrel;clear l52 bu;have hkr:KP W0 wr:=aO.2.1;have iq:=hkr.size;have bu:=hd0 aO;by_cases hlt:k<f.regions.length
   ·have hkb:k<=10000000000:=nt (ak1 hlt) n6;have hTr:Tabs wr:=hT.below aO.2.2 hG;have qY:PN wr (w.heap.size+1) f.ahO:=hP0.kp hp0 aO.1 hkr;have hpr:=aO.1;have hsl:=hkr.sl ah7.ok s6;clear aO;obtain⟨b,o,y,E0,e0,rfl,-,hy,q0,j0⟩:=hsl.region hlt;have hsn:=hd0 (bH bY f.regions k y hy.out);have hle:=bC bY f.regions k y hy.out;have hll:(T0++f.ahQ.flatMap dX++(f.regions.take k).flatMap bY).length+(bY y).length<=10000000000:=by simp only[la];omega
    obtain⟨y⟩:=y;dsimp only at q0 j0;have hyl:y.length<=10000000000:=by have h1:=Ej y;have h2:=kE iM (y.flatMap jM);have h3:bY ⟨y⟩=au iM (y.flatMap jM):=rfl;rw[h3] at hle;omega
    have hba:Below wr.heap.size wr (wr.alloc (.cells #[.slice E0 y.length e0] 104)):=(akl _ _).alloc (nr _) _;have hka:=KP.below hba;have hR:=hd0 (Vd _ w.heap.size (w.heap.size+1) fc _ E0 e0 y (hTr.all hba) (hpr.below hba) (nt hwW (nt iq hba.size)) (hka.sl aiI.ok j0) hyl (nt hll (by decide)));have Fe:=hd0 hka;have Ew:=hd0 hba;clear hy hle hll hsl hka hba hTr qY hpr;go_wp2_with (go_at_call 43;refine hR.out.mono ?_;rintro e wz ⟨rfl,hpz,hkz,hbz⟩)
    go_roundw
    case rel=>exact⟨k+1,by omega,by simp,by rw[hsn.out,<-aky];exact hpz,bu.out.2.1.trans (Fe.out.trans hkz),bu.out.2.2.trans ((Ew.out.mono (by omega)).trans hbz)⟩
    case measure=>simp[intOf];omega
   obtain rfl:k=f.regions.length:=by omega
   rw[akr] at bu;clear hkr iq;have l8:wr.cell? ⟨w.heap.size,8,none⟩=some (.slice A8 f.cvt.length c8):=(bu.out.2.1.bk B0 (by decide) (by decide)).cell 8
   go_upto_if 63 with fail
   go_cut [3,63] from 64 to 68 (fun s3 _ wx=>s3= .pointer (some ⟨w.heap.size+1,0,none⟩)/\rq w W0 w.heap.size (w.heap.size+1) fc (T0++f.ahQ.flatMap dX++f.regions.flatMap bY++jD f.cvt) wx)
   case first=>
    have aO:=bu.out;have hkr:KP W0 wr:=aO.2.1;have iq:=hkr.size;have hTr:Tabs wr:=hT.below aO.2.2 hG;have hpr:=aO.1;have hsl:=hkr.sl ahT.ok s8;clear aO;by_cases h0:f.cvt=[]
    ·have hz:jD f.cvt=[]:=by rw[h0];rfl
     have hz0:¬(0<f.cvt.length):=by rw[h0];simp
     have Hz:=hd0 hz;clear hz h0;go_wp2_with fail
     go_meet
     rw[Hz.out,akR];exact⟨rfl,bu.out⟩
    have hz:jD f.cvt=au kF (f.cvt.map ag):=by unfold jD;rw[if_neg (by simpa using h0)]
    have hz0:0<f.cvt.length:=ale.2 h0;have hw1:=kE kF (f.cvt.map ag);have xN:(T0++f.ahQ.flatMap dX++f.regions.flatMap bY).length+(au kF (f.cvt.map ag)).length<=10000000000:=by rw[<-hz];simp only[la];omega
    have hyl:f.cvt.length<=10000000000:=by rw[aks] at hw1;omega
    have hnl:Hid (f.cvt.length=(f.cvt.map ag).length):=hd0 (aks ag).symm;have JL:Hid ((T0++f.ahQ.flatMap dX++f.regions.flatMap bY).length+(au kF (f.cvt.map ag)).length<=1000000000000/\(f.cvt.map ag).length<=1000000000000):=hd0 ⟨by omega,by omega⟩;have hI:=hd0 (uw wr A8 c8 f.cvt hTr hsl (by omega));have Hz:=hd0 hz;clear hz h0 xN hw1;go_wp2_with (first
     |(go_at_call 44;refine hI.out.mono ?_;rintro e w1 ⟨Aw,cw,rfl,how,hb1⟩;have z1:=hb1.size)
     |(go_at_call 41;refine(nH w1 w.heap.size (w.heap.size+1) fc _ kF Aw cw f.cvt.length (f.cvt.map ag) hnl.out (hpr.below hb1) (kQ how) JL.out).mono ?_;rintro e wz ⟨rfl,hpz,hkz,hbz⟩))
    go_meet
    rw[Hz.out];exact⟨rfl,hpz,bu.out.2.1.trans ((KP.below hb1).trans hkz),bu.out.2.2.trans ((hb1.mono (by omega)).trans hbz)⟩
   case rest=>
    obtain⟨rfl,aO⟩:=hcut;clear bu l8;have bu:=hd0 aO;clear aO;have l72:wc.cell? ⟨w.heap.size,7,none⟩=some (.slice A7 f.funcs.length c7):=(bu.out.2.1.bk B0 (by decide) (by decide)).cell 7;go_wp2_with fail
    go_loopw [72] (fun i wr=>∃k:Nat,k<=f.funcs.length/\i= .int .i64 k/\rq w W0 w.heap.size (w.heap.size+1) fc (T0++f.ahQ.flatMap dX++f.regions.flatMap bY++jD f.cvt++(f.funcs.take k).flatMap gG) wr) (fun i _=>f.funcs.length - (intOf i).toNat)
    case atStart=>exact⟨0,nz _,rfl,by simpa using bu.out⟩
    case round=>
     obtain⟨k,hk,rfl,aO⟩:=hrel;clear l72 bu;have hkr:KP W0 wr:=aO.2.1;have iq:=hkr.size;have bu:=hd0 aO;by_cases hlt:k<f.funcs.length
     ·have hkb:k<=10000000000:=nt (ak1 hlt) n7;have hTr:Tabs wr:=hT.below aO.2.2 hG;have qY:PN wr (w.heap.size+1) f.ahO:=hP0.kp hp0 aO.1 hkr;have hpr:=aO.1;have hsl:=hkr.sl aih.ok s7;clear aO;obtain⟨b,o,y,E0,e0,rfl,-,hy,q0,j0⟩:=hsl.code hlt;have hsn:=hd0 (bH gG f.funcs k y hy.out);have hle:=bC gG f.funcs k y hy.out;have hll:(T0++f.ahQ.flatMap dX++f.regions.flatMap bY++jD f.cvt++(f.funcs.take k).flatMap gG).length+(gG y).length<=10000000000:=by simp only[la];omega
      have hw1:=kE mX (y.map dw);have xN:(T0++f.ahQ.flatMap dX++f.regions.flatMap bY++jD f.cvt++(f.funcs.take k).flatMap gG).length+(au mX (y.map dw)).length<=10000000000:=hll;have hyl:y.length<=10000000000:=by rw[aks] at hw1;omega
      have hnl:Hid (y.length=(y.map dw).length):=hd0 (aks dw).symm;have RX:(T0++f.ahQ.flatMap dX++f.regions.flatMap bY++jD f.cvt++(f.funcs.take k).flatMap gG).length+(au mX (y.map dw)).length<=1000000000000/\(y.map dw).length<=1000000000000:=⟨by omega,by omega⟩
      have JL:=hd0 RX;have hI:=hd0 (vM wr E0 e0 y hTr j0 (by omega));clear hy hle hll hsl xN hw1 RX;go_wp2_with (first
       |(go_at_call 45;refine hI.out.mono ?_;rintro e w1 ⟨Aw,cw,rfl,how,hb1⟩;have z1:=hb1.size)
       |(go_at_call 41;refine(nH w1 w.heap.size (w.heap.size+1) fc _ mX Aw cw y.length (y.map dw) hnl.out (hpr.below hb1) (kQ how) JL.out).mono ?_;rintro e wz ⟨rfl,hpz,hkz,hbz⟩))
      go_roundw
      case rel=>exact⟨k+1,by omega,by simp,by rw[hsn.out,<-aky];exact hpz,bu.out.2.1.trans ((KP.below hb1).trans hkz),bu.out.2.2.trans ((hb1.mono (by omega)).trans hbz)⟩
      case measure=>simp[intOf];omega
     obtain rfl:k=f.funcs.length:=by omega
     rw[akr] at bu;clear hkr iq;have l84:wr.cell? ⟨w.heap.size,1,none⟩=some (.slice A1 f.ahO.length c1):=(bu.out.2.1.bk B0 (by decide) (by decide)).cell 1;go_wp2_with fail
     go_loopw [84] (fun i wr=>∃k:Nat,k<=f.ahO.length/\i= .int .i64 k/\rq w W0 w.heap.size (w.heap.size+1) fc (T0++f.ahQ.flatMap dX++f.regions.flatMap bY++jD f.cvt++f.funcs.flatMap gG++(f.ahO.take k).flatMap (dO f.ahO)) wr) (fun i _=>f.ahO.length - (intOf i).toNat)
     case atStart=>exact⟨0,nz _,rfl,by simpa using bu.out⟩
     case round=>
      obtain⟨k,hk,rfl,aO⟩:=hrel;clear l84 bu;have hkr:KP W0 wr:=aO.2.1;have iq:=hkr.size;have bu:=hd0 aO;by_cases hlt:k<f.ahO.length
      ·have hkb:k<=10000000000:=nt (ak1 hlt) n1;have hTr:Tabs wr:=hT.below aO.2.2 hG;have qY:PN wr (w.heap.size+1) f.ahO:=hP0.kp hp0 aO.1 hkr;have hpr:=aO.1;have hsl:=hkr.sl ahW.ok s1;clear aO;obtain⟨b,o,y,E3,e3,E4,e4,E5,e5,E6,e6,E7,e7,E8,e8,rfl,-,hy,q0,q1,q2,q3,q4,q5,q6,q7,q8,r1,j3,j4,j5,j6,j7,j8⟩:=hsl.ahU hlt;have hsn:=hd0 (bH (dO f.ahO) f.ahO k y hy.out);have hle:=bC (dO f.ahO) f.ahO k y hy.out;have hll:(T0++f.ahQ.flatMap dX++f.regions.flatMap bY++jD f.cvt++f.funcs.flatMap gG++(f.ahO.take k).flatMap (dO f.ahO)).length+((dO f.ahO) y).length<=10000000000:=by simp only[la];omega
       obtain⟨hpn,hen⟩:=hS y (akt hy.out);have hhn:y.hint.length<=1000000000:=hH y (akt hy.out);have hba:Below wr.heap.size wr (wr.alloc (.cells #[.string ⟨y.name.toArray⟩,.int .i64 y.advance,.bool y.mark,.slice E3 y.points.length e3,.slice E4 y.ends.length e4,.slice E5 y.parts.length e5,.slice E6 y.anchors.length e6,.slice E7 y.deltas.length e7,.slice E8 y.hint.length e8] 59)):=(akl _ _).alloc (nr _) _;have hka:=KP.below hba;have hR:=hd0 (Qs _ w.heap.size (w.heap.size+1) fc _ f.ahO E3 E4 E5 E6 E7 E8 e3 e4 e5 e6 e7 e8 y (hTr.all hba) hG (qY.below hba) hgl (hpr.below hba) (nt hwW (nt iq hba.size)) r1 (hka.sl PtR.ok j3) (hka.sl ahT.ok j4) (hka.sl ah6.ok j5) (hka.sl ahY.ok j6) (hka.sl ah3.ok j7) (hka.sl ah5.ok j8) hpn hen hhn hll);have Fe:=hd0 hka;have Ew:=hd0 hba;clear hy hle hll hsl hka hba hTr qY hpr;go_wp2_with (go_at_call 46;refine hR.out.mono ?_;rintro e wz ⟨rfl,hpz,hkz,hbz⟩)
       go_roundw
       case rel=>exact⟨k+1,by omega,by simp,by rw[hsn.out,<-aky];exact hpz,bu.out.2.1.trans (Fe.out.trans hkz),bu.out.2.2.trans ((Ew.out.mono (by omega)).trans hbz)⟩
       case measure=>simp[intOf];omega
      obtain rfl:k=f.ahO.length:=by omega
      rw[akr] at bu;clear hkr iq;have l95:wr.cell? ⟨w.heap.size,2,none⟩=some (.slice A2 f.chars.length c2):=(bu.out.2.1.bk B0 (by decide) (by decide)).cell 2;go_wp2_with fail
      go_loopw [95] (fun i wr=>∃k:Nat,k<=f.chars.length/\i= .int .i64 k/\rq w W0 w.heap.size (w.heap.size+1) fc (T0++f.ahQ.flatMap dX++f.regions.flatMap bY++jD f.cvt++f.funcs.flatMap gG++f.ahO.flatMap (dO f.ahO)++(f.chars.take k).flatMap (jL f.ahO)) wr) (fun i _=>f.chars.length - (intOf i).toNat)
      case atStart=>exact⟨0,nz _,rfl,by simpa using bu.out⟩
      case round=>
       obtain⟨k,hk,rfl,aO⟩:=hrel;clear l95 bu;have hkr:KP W0 wr:=aO.2.1;have iq:=hkr.size;have bu:=hd0 aO;by_cases hlt:k<f.chars.length
       ·have hkb:k<=10000000000:=nt (ak1 hlt) n2;have hTr:Tabs wr:=hT.below aO.2.2 hG;have qY:PN wr (w.heap.size+1) f.ahO:=hP0.kp hp0 aO.1 hkr;have hpr:=aO.1;have hsl:=hkr.sl ait.ok s2;clear aO;obtain⟨b,o,y,rfl,-,hy,q0,q1,r0,r1⟩:=hsl.chr hlt;have hsn:=hd0 (bH (jL f.ahO) f.chars k y hy.out);have hle:=bC (jL f.ahO) f.chars k y hy.out;have hll:(T0++f.ahQ.flatMap dX++f.regions.flatMap bY++jD f.cvt++f.funcs.flatMap gG++f.ahO.flatMap (dO f.ahO)++(f.chars.take k).flatMap (jL f.ahO)).length+((jL f.ahO) y).length<=10000000000:=by simp only[la];omega
        obtain⟨y0,y1⟩:=y;dsimp only at q0 q1 r0 r1;have xN:(T0++f.ahQ.flatMap dX++f.regions.flatMap bY++jD f.cvt++f.funcs.flatMap gG++f.ahO.flatMap (dO f.ahO)++(f.chars.take k).flatMap (jL f.ahO)).length+(au pq [ag y0,bV f.ahO y1]).length<=10000000000:=hll;clear hy hle hll hsl;go_wp2_with fail
        obtain⟨W2,hW2⟩:∃W2,wr.alloc (.cells #[.int .i64 y0,.int .i64 y1] 93)=W2:=⟨_,rfl⟩
        rw[hW2];have hb0:Below wr.heap.size wr W2:=by rw[<-hW2];exact(akl _ _).alloc (nr _) _
        have BV:Bk W2 wr.heap.size 93 #[.int .i64 y0,.int .i64 y1]:=by rw[<-hW2];exact Bk.new _ _ _
        have Ku:=hb0.size;clear hW2 q0 q1;have hT2:=hTr.all hb0;have hP2:=qY.below hb0;have uT:=hpr.below hb0;have v0:W2.cell? ⟨wr.heap.size,0,none⟩=some (.int .i64 y0):=BV.cell 0;have v1:W2.cell? ⟨wr.heap.size,1,none⟩=some (.int .i64 y1):=BV.cell 1
        go_region_held3 (fun w'=>w'.cell? ⟨wr.heap.size,0,none⟩=some (.int .i64 y0)/\w'.cell? ⟨wr.heap.size,1,none⟩=some (.int .i64 y1))
         (first
          |exact⟨(hkz.bk (BV.below hc2) (by decide) (by decide)).cell 0,(hkz.bk (BV.below hc2) (by decide) (by decide)).cell 1⟩
          |exact⟨bU _ (ae hc2 v0),bU _ (ae hc2 v1)⟩
          |exact⟨ae hc2 v0,ae hc2 v1⟩
          |exact⟨ae hc1 v0,ae hc1 v1⟩
          |go_keep)
         (first
          |(go_at_call 42;refine(aS _ y0 hT2.drew r0).mono ?_;rintro e w1 ⟨rfl,hb1⟩;have hc1:=jF hb1;have z1:=hc1.size)
          |(go_at_call 47;refine(xG _ (w.heap.size+1) f.ahO y1 (hT2.all hc1) r1 (hP2.below hc1) hgl).mono ?_;rintro e w2 ⟨rfl,hb2⟩;have hc2:=bt hc1 hb2;have z2:=hc2.size)
          |(go_at_call 41;refine(kH w2 w2.heap.size 2 rfl w.heap.size (w.heap.size+1) fc _ pq [ag y0,bV f.ahO y1] rfl (uT.below hc2) xN).mono ?_;rintro e wz ⟨rfl,hpz,hkz,hbz⟩))
        go_wp2;go_roundw
        case rel=>exact⟨k+1,by omega,by simp,by rw[hsn.out,<-aky];exact hpz,bu.out.2.1.trans ((KP.below (bt hb0 hc2)).trans hkz),bu.out.2.2.trans (((bt hb0 hc2).mono (by omega)).trans hbz)⟩
        case measure=>simp[intOf];omega
       obtain rfl:k=f.chars.length:=by omega
       rw[akr] at bu;clear hkr iq;have afn:wr.cell? ⟨w.heap.size,3,none⟩=some (.slice A3 f.ahP.length c3):=(bu.out.2.1.bk B0 (by decide) (by decide)).cell 3;go_wp2_with fail
       go_loopw [113] (fun i wr=>∃k:Nat,k<=f.ahP.length/\i= .int .i64 k/\rq w W0 w.heap.size (w.heap.size+1) fc (T0++f.ahQ.flatMap dX++f.regions.flatMap bY++jD f.cvt++f.funcs.flatMap gG++f.ahO.flatMap (dO f.ahO)++f.chars.flatMap (jL f.ahO)++(f.ahP.take k).flatMap (dJ f.ahO)) wr) (fun i _=>f.ahP.length - (intOf i).toNat)
       case atStart=>exact⟨0,nz _,rfl,by simpa using bu.out⟩
       case round=>
        obtain⟨k,hk,rfl,aO⟩:=hrel;clear afn bu;have hkr:KP W0 wr:=aO.2.1;have iq:=hkr.size;have bu:=hd0 aO;by_cases hlt:k<f.ahP.length
        ·have hkb:k<=10000000000:=nt (ak1 hlt) n3;have hTr:Tabs wr:=hT.below aO.2.2 hG;have qY:PN wr (w.heap.size+1) f.ahO:=hP0.kp hp0 aO.1 hkr;have hpr:=aO.1;have hsl:=hkr.sl ah1.ok s3;clear aO;obtain⟨b,o,y,E2,e2,rfl,-,hy,q0,q1,q2,r0,j2⟩:=hsl.lookup hlt;have hsn:=hd0 (bH (dJ f.ahO) f.ahP k y hy.out);have hle:=bC (dJ f.ahO) f.ahP k y hy.out;have hll:(T0++f.ahQ.flatMap dX++f.regions.flatMap bY++jD f.cvt++f.funcs.flatMap gG++f.ahO.flatMap (dO f.ahO)++f.chars.flatMap (jL f.ahO)++(f.ahP.take k).flatMap (dJ f.ahO)).length+((dJ f.ahO) y).length<=10000000000:=by simp only[la];omega
         have hrl:y.rules.length<=10000000000:=by have h1:=kV (mP f.ahO y.kind) (fun _=>jm _ _) y.rules;have h2:dJ f.ahO y=au fH (pick az y.kind::if y.aik then [eP] else [])++y.rules.flatMap (mP f.ahO y.kind):=rfl;rw[h2,la] at hle;omega
         have hba:Below wr.heap.size wr (wr.alloc (.cells #[.int .i64 y.kind,.bool y.aik,.slice E2 y.rules.length e2] 72)):=(akl _ _).alloc (nr _) _;have hka:=KP.below hba;have hR:=hd0 (SG _ w.heap.size (w.heap.size+1) fc _ f.ahO E2 e2 y (hTr.all hba) hG (qY.below hba) hgl (hpr.below hba) (nt hwW (nt iq hba.size)) (hka.sl aig.ok j2) hrl hll);have Fe:=hd0 hka;have Ew:=hd0 hba;clear hy hle hll hsl hka hba hTr qY hpr;go_wp2_with (go_at_call 48;refine hR.out.mono ?_;rintro e wz ⟨rfl,hpz,hkz,hbz⟩)
         go_roundw
         case rel=>exact⟨k+1,by omega,by simp,by rw[hsn.out,<-aky];exact hpz,bu.out.2.1.trans (Fe.out.trans hkz),bu.out.2.2.trans ((Ew.out.mono (by omega)).trans hbz)⟩
         case measure=>simp[intOf];omega
        obtain rfl:k=f.ahP.length:=by omega
        rw[akr] at bu;clear hkr iq;have ae0:wr.cell? ⟨w.heap.size,4,none⟩=some (.slice A4 f.features.length c4):=(bu.out.2.1.bk B0 (by decide) (by decide)).cell 4;go_wp2_with fail
        go_loopw [124] (fun i wr=>∃k:Nat,k<=f.features.length/\i= .int .i64 k/\rq w W0 w.heap.size (w.heap.size+1) fc (T0++f.ahQ.flatMap dX++f.regions.flatMap bY++jD f.cvt++f.funcs.flatMap gG++f.ahO.flatMap (dO f.ahO)++f.chars.flatMap (jL f.ahO)++f.ahP.flatMap (dJ f.ahO)++(f.features.take k).flatMap iI) wr) (fun i _=>f.features.length - (intOf i).toNat)
        case atStart=>exact⟨0,nz _,rfl,by simpa using bu.out⟩
        case round=>
         obtain⟨k,hk,rfl,aO⟩:=hrel;clear ae0 bu;have hkr:KP W0 wr:=aO.2.1;have iq:=hkr.size;have bu:=hd0 aO;by_cases hlt:k<f.features.length
         ·have hkb:k<=10000000000:=nt (ak1 hlt) n4;have hTr:Tabs wr:=hT.below aO.2.2 hG;have qY:PN wr (w.heap.size+1) f.ahO:=hP0.kp hp0 aO.1 hkr;have hpr:=aO.1;have hsl:=hkr.sl ah2.ok s4;clear aO;obtain⟨b,o,y,E1,e1,rfl,-,hy,q0,q1,j1⟩:=hsl.ai9 hlt;have hsn:=hd0 (bH iI f.features k y hy.out);have hle:=bC iI f.features k y hy.out;have hll:(T0++f.ahQ.flatMap dX++f.regions.flatMap bY++jD f.cvt++f.funcs.flatMap gG++f.ahO.flatMap (dO f.ahO)++f.chars.flatMap (jL f.ahO)++f.ahP.flatMap (dJ f.ahO)++(f.features.take k).flatMap iI).length+(iI y).length<=10000000000:=by simp only[la];omega
          obtain⟨y0,y1⟩:=y;dsimp only at q0 q1 j1;have hw1:=kE iw (y0::y1.map ag);have xN:(T0++f.ahQ.flatMap dX++f.regions.flatMap bY++jD f.cvt++f.funcs.flatMap gG++f.ahO.flatMap (dO f.ahO)++f.chars.flatMap (jL f.ahO)++f.ahP.flatMap (dJ f.ahO)++(f.features.take k).flatMap iI).length+(au iw (y0::y1.map ag)).length<=10000000000:=hll;have hyl:y1.length<=10000000000:=by simp only[aF,aks] at hw1;omega
          have hnl:Hid (1+y1.length=(y0::y1.map ag).length):=hd0 (by simp;omega);have JL:Hid ((T0++f.ahQ.flatMap dX++f.regions.flatMap bY++jD f.cvt++f.funcs.flatMap gG++f.ahO.flatMap (dO f.ahO)++f.chars.flatMap (jL f.ahO)++f.ahP.flatMap (dJ f.ahO)++(f.features.take k).flatMap iI).length+(au iw (y0::y1.map ag)).length<=1000000000000/\(y0::y1.map ag).length<=1000000000000):=hd0 ⟨by omega,by omega⟩;clear hy hle hll hsl xN hw1;have hkj:=hkr;go_wp2_with fail
          obtain⟨W2,hW2⟩:∃W2,wr.alloc (.cells #[.string ⟨y0.toArray⟩,.slice E1 y1.length e1] 97)=W2:=⟨_,rfl⟩
          rw[hW2];have hb0:Below wr.heap.size wr W2:=by rw[<-hW2];exact(akl _ _).alloc (nr _) _
          have BV:Bk W2 wr.heap.size 97 #[.string ⟨y0.toArray⟩,.slice E1 y1.length e1]:=by rw[<-hW2];exact Bk.new _ _ _
          have Ku:=hb0.size;clear hW2 q0 q1;have uT:=hpr.below hb0;have hT2:=hTr.all hb0;have hsB:=(KP.below hb0).sl ahT.ok j1;have hbL:Below W2.heap.size W2 (W2.alloc (.cells #[.string ⟨y0.toArray⟩] 9)):=(akl _ _).alloc (nr _) _;have hTA:=(hT2.all hbL).drew;have hTB:=hT2.drew;have hsA:Sl ahT 1 (W2.alloc (.cells #[.string ⟨y0.toArray⟩] 9)).drew (FT (W2.alloc (.cells #[.string ⟨y0.toArray⟩] 9)).drew) E1 y1:=(KP.below (akl _ _).drew).sl ahT.ok ((KP.below hbL).sl ahT.ok hsB);have adB:Sl ahT 1 W2.drew (FT W2.drew) E1 y1:=(KP.below (akl _ _).drew).sl ahT.ok hsB;have aap:y1.length<=100000000000:=by omega
          have ab7:1+y1.length<=1000000000000:=by omega
          have v0:W2.cell? ⟨wr.heap.size,0,none⟩=some (.string ⟨y0.toArray⟩):=BV.cell 0;have v1:W2.cell? ⟨wr.heap.size,1,none⟩=some (.slice E1 y1.length e1):=BV.cell 1;have hoL:(W2.alloc (.cells #[.string ⟨y0.toArray⟩] 9)).ownsRow W2.heap.size 9 1 (.slice (some ⟨W2.heap.size,0,none⟩) 1 1) 1 [.string ⟨y0.toArray⟩]:=Oi W2 _ y0 (nr _);have HbL:=hd0 hbL;clear hbL
          go_region_held3 (fun w'=>w'.cell? ⟨wr.heap.size,0,none⟩=some (.string ⟨y0.toArray⟩)/\w'.cell? ⟨wr.heap.size,1,none⟩=some (.slice E1 y1.length e1))
           (first
            |exact⟨(hkz.bk (BV.below hcz) (by decide) (by decide)).cell 0,(hkz.bk (BV.below hcz) (by decide) (by decide)).cell 1⟩
            |exact⟨ae hcz v0,ae hcz v1⟩
            |exact⟨bU _ (ae hcB v0),bU _ (ae hcB v1)⟩
            |exact⟨ae hcA v0,ae hcA v1⟩
            |exact⟨ae hcB v0,ae hcB v1⟩
            |go_keep)
           (first
            |(go_at_call 44;refine(uw (W2.alloc (.cells #[.string ⟨y0.toArray⟩] 9)).drew E1 e1 y1 hTA hsA aap).mono ?_;rintro e w1 ⟨Aw,cw,rfl,how,hb1⟩;have hc1:=jF hb1;have hcA:=bt HbL.out hc1;have z1:=hcA.size;have hoA:=own_below hoL hc1;have hrA:=gz how (aks ag))
            |(go_at_call 44;refine(uw W2.drew E1 e1 y1 hTB adB aap).mono ?_;rintro e w1 ⟨Aw,cw,rfl,how,hb1⟩;have hcB:=jF hb1;have z1:=hcB.size;have UV:=Oi w1 W2.heap.size y0 z1;have hrB:=VD (o:=(.cells #[.string ⟨y0.toArray⟩] 9)) (gz how (aks ag)))
            |(refine L6 (by rfl) (.tmp 131) (.tmp 134) (by rfl) w1 W2.heap.size 1 1 _ _ w1.heap.size Aw y1.length cw (y1.map ag) (by go_simp) (by go_simp) hoA hrA ab7 z1 ?_;intro A4 c4 w4 fD hg4;have hcz:=hcA.grown hg4 z1 (fun g e=>(hoA.lt g e).1))
            |(refine L6 (by rfl) (.tmp 131) (.tmp 134) (by rfl) _ W2.heap.size 1 1 _ _ _ Aw y1.length cw (y1.map ag) (by go_simp) (by go_simp) UV hrB ab7 (MN z1) ?_;intro A4 c4 w4 fD hg4;have hcz:=(hcB.alloc z1 _).grown hg4 (MN z1) (fun g e=>(UV.lt g e).1))
            |(go_at_call 41;refine(nH w4 w.heap.size (w.heap.size+1) fc _ iw A4 c4 (1+y1.length) (y0::y1.map ag) hnl.out (uT.below hcz) (kQ (ws:=y0::y1.map ag) fD) JL.out).mono ?_;rintro e wz ⟨rfl,hpz,hkz,hbz⟩))
          all_goals
           go_wp2;go_roundw
           case rel=>exact⟨k+1,by omega,by simp,by rw[hsn.out,<-aky];exact hpz,bu.out.2.1.trans ((KP.below (bt hb0 hcz)).trans hkz),bu.out.2.2.trans (((bt hb0 hcz).mono (by omega)).trans hbz)⟩
           case measure=>simp[intOf];omega
         obtain rfl:k=f.features.length:=by omega
         rw[akr] at bu;clear hkr iq;obtain⟨TT,hTT⟩:∃TT,T0++f.ahQ.flatMap dX++f.regions.flatMap bY++jD f.cvt++f.funcs.flatMap gG++f.ahO.flatMap (dO f.ahO)++f.chars.flatMap (jL f.ahO)++f.ahP.flatMap (dJ f.ahO)++f.features.flatMap iI=TT:=⟨_,rfl⟩
         have hpr:=bu.out.1;have hbl:=bu.out.2.2;rw[hTT] at hpr hne HF;clear hTT bu;go_wp2_with (go_at_call 49;refine(QY wr w.heap.size (w.heap.size+1) fc _ hpr hne.out).mono ?_;rintro e wz ⟨rfl,hbz⟩)
         go_ret
         rw[HF.out];exact⟨rfl,hbl.trans hbz⟩
end Go.Proofs.YtkijckccfookeaaGreatDoor
