/- Lemmas. -/
import Derived.Test.YtkijckccfookeaaDoorUnH
set_option linter.unusedVariables false
set_option linter.unusedSimpArgs false
set_option maxRecDepth 100000
set_option maxHeartbeats 32000000
namespace Go.Proofs.YtkijckccfookeaaDoor
open Go.RowKit Go.Shelf Go.Sort
def iV (l:List Int):B:=if l.isEmpty then [] else ax lY (l.map af)
theorem Gm (f:Fnt):gp f=ax mG [af f.unit]++f.aeP.flatMap dF++f.regions.flatMap bP++iV f.cvt++f.funcs.flatMap eP++f.aeN.flatMap (dn f.aeN)++f.chars.flatMap (jc f.aeN)++f.aeO.flatMap (di f.aeN)++f.features.flatMap gy:=rfl
def abH (l:List Value)(i:Nat):Value:=l.getD i undef
theorem Nk (gs:List aeS)(x:aeS):1<=(dn gs x).length:=by rw[xN];have:1<=(Oa x).length:=iJ _ _;simp only[la];omega
theorem Vk (gs:List aeS)(x:aeS):x.hint.length<=(dn gs x).length:=by
 rw[xN];simp only[la];unfold yw;split
 ·rename_i h;have:x.hint=[]:=by simpa using h
  rw[this];simp
 have:=jw pJ (x.hint.map bW);rw[agL] at this;omega
theorem Rl {α:Type}(f:α->B)(l:List α)(x:α)(h:x∈l):(f x).length<=(l.flatMap f).length:=by obtain⟨k,hk⟩:=agX.1 h;have:=bu f l k x hk;omega
theorem Jj (gs:List aeS)(x:Lookup):1<=(di gs x).length:=by unfold di;have:=iJ iT (pick bF x.kind::if x.afh then [lK] else []);rw[la];omega
theorem IK {ops:Array Oper}{o:Oper}{a:Act}{K:Act->World->Prop}{Q:Exit->Act->World->Prop}{E:Prop}(hgd:o.guard=none)(s x:Operand)
  (ho:o.op= .call {callee:= .builtin .append,args:= #[s,x],argTypes:= #[46,46]})
  (w1:World) (base n c:Nat) (A:Option Addr) (xs:List Value) (Bd:Nat) (A2:Option Addr) (m c2:Nat) (ws:List B) (hs:a.eval s= .slice A n c) (hx:a.eval x= .slice A2 m c2)
  (hown:w1.ownsRow base 9 1 (.slice A n c) n xs) (hr:Rd w1 Bd A2 m 1 (strs ws)) (hn:n+m<=1000000000000) (hb:base<=w1.heap.size)
  (h:∀A' c' w',w'.ownsRow base 9 1 (.slice A' (n+m) c') (n+m) (xs++strs ws)->w1.grownBy w' (Value.slice A n c).ownBlock->K (a.put o.dst (.slice A' (n+m) c')) w'):
  if Region.wanted o (yielded ops a.tmps)=true then Oper.wp Tryd.prog o a w1 K Q else E:=by
 obtain⟨i0,hi0,hz0,hz1,hz2⟩:=info_parts yt;refine jA _ hgd s x 46 ho base 9 i0 _ 1 16 Tryd.underlying46 hi0 hz0 hz1 hz2 rfl (by decide) (.slice A n c) n xs hs hown Bd A2 m c2 (strs ws) hx hr (Az ws) (by simp only[maxLen];omega) (by omega) hb ?_;intro v' w' ho' hg _;obtain⟨A',c',rfl⟩:=uZ ho';exact h A' c' w' ho' hg
theorem Kw (w:World)(base:Nat)(y:B)(h:base<=w.heap.size):(w.alloc (.cells #[.string ⟨y.toArray⟩] 9)).ownsRow base 9 1 (.slice (some ⟨w.heap.size,0,none⟩) 1 1) 1 [.string ⟨y.toArray⟩]:=⟨rfl,.inr ⟨w.heap.size,1,#[.string ⟨y.toArray⟩],rfl,h,heap_alloc_new w _,ai _,by decide,rfl,rfl⟩⟩
theorem Qy {w:World}{A:Option Addr}{n size:Nat}{cs:List Value}{o:Obj}(h:Rd w w.heap.size A n size cs):Rd (w.alloc o) w.heap.size A n size cs:=h.alloc (ai _) o
theorem Hr {w:World}{o:Obj}{n:Nat}(h:n<=w.heap.size):n<=(w.alloc o).heap.size:=by simp;omega
theorem CP (w:World)(f:Fnt) A1 A2 A3 A4 A5 A6 A7 A8 c1 c2 c3 c4 c5 c6 c7 c8 (hT:Tabs w) (hG:nG<=w.heap.size) (r0:I64 f.unit) (s1:Sl aeU 9 w (FT w) A1 f.aeN) (s2:Sl afb 2 w (FT w) A2 f.chars) (s3:Sl aeV 3 w (FT w) A3 f.aeO) (s4:Sl aeW 2 w (FT w) A4 f.features) (s5:Sl ae2 4 w (FT w) A5 f.aeP) (s6:Sl aeY 1 w (FT w) A6 f.regions) (s7:Sl ae1 1 w (FT w) A7 f.funcs) (s8:Sl aeQ 1 w (FT w) A8 f.cvt)
  (hS:∀g∈f.aeN,g.points.length<=1000000000/\g.ends.length<=1000000000) (hL:(gp f).length<=1000000000):
  Calls Tryd.prog 8 #[.agg #[.int .i64 f.unit,.slice A1 f.aeN.length c1,.slice A2 f.chars.length c2,.slice A3 f.aeO.length c3,.slice A4 f.features.length c4,.slice A5 f.aeP.length c5,.slice A6 f.regions.length c6,.slice A7 f.funcs.length c7,.slice A8 f.cvt.length c8]] w fun e w'=>e= .returned (.string ⟨(gp f).toArray⟩)/\Below w.heap.size w w':=by
 have HF:=hd0 (Gm f);rw[Gm] at hL;obtain⟨T0,LY⟩:∃T0,ax mG [af f.unit]=T0:=⟨_,rfl⟩
 rw[LY] at hL HF;have HT0:=hd0 LY;have Zt:T0.length+(f.aeP.flatMap dF).length+(f.regions.flatMap bP).length+(iV f.cvt).length+(f.funcs.flatMap eP).length+(f.aeN.flatMap (dn f.aeN)).length+(f.chars.flatMap (jc f.aeN)).length+(f.aeO.flatMap (di f.aeN)).length+(f.features.flatMap gy).length<=1000000000:=by simp only[la] at hL;omega
 have hne:Hid (T0++f.aeP.flatMap dF++f.regions.flatMap bP++iV f.cvt++f.funcs.flatMap eP++f.aeN.flatMap (dn f.aeN)++f.chars.flatMap (jc f.aeN)++f.aeO.flatMap (di f.aeN)++f.features.flatMap gy≠[]):=hd0 (by
  intro h;have:=congrArg List.length h;rw[<-LY] at this;have h2:=iJ mG [af f.unit];simp only[la,ln] at this;omega)
 clear LY hL;have n1:f.aeN.length<=10000000000:=by have:=jR (dn f.aeN) (Nk f.aeN) f.aeN;omega
 have n2:f.chars.length<=10000000000:=by have:=jR (jc f.aeN) (fun _=>iJ _ _) f.chars;omega
 have n3:f.aeO.length<=10000000000:=by have:=jR (di f.aeN) (Jj f.aeN) f.aeO;omega
 have n4:f.features.length<=10000000000:=by have:=jR gy (fun _=>iJ _ _) f.features;omega
 have n5:f.aeP.length<=10000000000:=by have:=jR dF (fun _=>iJ _ _) f.aeP;omega
 have n6:f.regions.length<=10000000000:=by have:=jR bP (fun _=>iJ _ _) f.regions;omega
 have n7:f.funcs.length<=10000000000:=by have:=jR eP (fun _=>iJ _ _) f.funcs;omega
 have hgl:f.aeN.length<=1000000000000:=by omega
 have hH:∀y∈f.aeN,y.hint.length<=1000000000:=fun y hy=>by have h1:=Vk f.aeN y;have h2:=Rl (dn f.aeN) f.aeN y hy;omega
 have hS:=hd0 hS;have hH:=hd0 hH;go_enter Tryd.func8,Tryd.ntmps8
 go_upto_region 2 with fail
 obtain⟨W0,hW0⟩:∃W0,(w.alloc (.cells #[.int .i64 f.unit,.slice A1 f.aeN.length c1,.slice A2 f.chars.length c2,.slice A3 f.aeO.length c3,.slice A4 f.features.length c4,.slice A5 f.aeP.length c5,.slice A6 f.regions.length c6,.slice A7 f.funcs.length c7,.slice A8 f.cvt.length c8] 32)).alloc (.cells #[.int .i64 f.unit,.slice A1 f.aeN.length c1,.slice A2 f.chars.length c2,.slice A3 f.aeO.length c3,.slice A4 f.features.length c4,.slice A5 f.aeP.length c5,.slice A6 f.regions.length c6,.slice A7 f.funcs.length c7,.slice A8 f.cvt.length c8,.pointer none,.slice none 0 0] 96)=W0:=⟨_,rfl⟩
 rw[hW0];have hbW:Below w.heap.size w W0:=by rw[<-hW0];exact((agE _ _).alloc (ai _) _).alloc (by simp) _
 have B0:Bk W0 w.heap.size 32 #[.int .i64 f.unit,.slice A1 f.aeN.length c1,.slice A2 f.chars.length c2,.slice A3 f.aeO.length c3,.slice A4 f.features.length c4,.slice A5 f.aeP.length c5,.slice A6 f.regions.length c6,.slice A7 f.funcs.length c7,.slice A8 f.cvt.length c8]:=by rw[<-hW0];exact(Bk.new _ _ _).alloc _
 have B1:Bk W0 (w.heap.size+1) 96 #[.int .i64 f.unit,.slice A1 f.aeN.length c1,.slice A2 f.chars.length c2,.slice A3 f.aeO.length c3,.slice A4 f.features.length c4,.slice A5 f.aeP.length c5,.slice A6 f.regions.length c6,.slice A7 f.funcs.length c7,.slice A8 f.cvt.length c8,.pointer none,.slice none 0 0]:=by
  rw[<-hW0];have:=Bk.new (w.alloc (.cells #[.int .i64 f.unit,.slice A1 f.aeN.length c1,.slice A2 f.chars.length c2,.slice A3 f.aeO.length c3,.slice A4 f.features.length c4,.slice A5 f.aeP.length c5,.slice A6 f.regions.length c6,.slice A7 f.funcs.length c7,.slice A8 f.cvt.length c8] 32)) 96 #[.int .i64 f.unit,.slice A1 f.aeN.length c1,.slice A2 f.chars.length c2,.slice A3 f.aeO.length c3,.slice A4 f.features.length c4,.slice A5 f.aeP.length c5,.slice A6 f.regions.length c6,.slice A7 f.funcs.length c7,.slice A8 f.cvt.length c8,.pointer none,.slice none 0 0]
  rwa [World.size_alloc] at this
 obtain⟨fc,hfc⟩:∃fc:Nat->Value,PrC W0 (w.heap.size+1) fc (.pointer none) (.slice none 0 0):=⟨abH [.int .i64 f.unit,.slice A1 f.aeN.length c1,.slice A2 f.chars.length c2,.slice A3 f.aeO.length c3,.slice A4 f.features.length c4,.slice A5 f.aeP.length c5,.slice A6 f.regions.length c6,.slice A7 f.funcs.length c7,.slice A8 f.cvt.length c8],B1⟩
 have z0:=hbW.size;have Xg:w.heap.size<=W0.heap.size:=z0;have hp0:Pr W0 w.heap.size (w.heap.size+1) fc []:=⟨_,_,by omega,hfc,.inl rfl,⟨rfl,.inl ⟨rfl,rfl⟩⟩⟩
 have hP0:PN W0 (w.heap.size+1) f.aeN:=⟨A1,c1,B1.cell 1,(KP.below hbW).sl aeU.ok s1⟩
 have hkW:=KP.below hbW;replace s1:=hkW.sl aeU.ok s1;replace s2:=hkW.sl afb.ok s2;replace s3:=hkW.sl aeV.ok s3;replace s4:=hkW.sl aeW.ok s4;replace s5:=hkW.sl ae2.ok s5;replace s6:=hkW.sl aeY.ok s6;replace s7:=hkW.sl ae1.ok s7;replace s8:=hkW.sl aeQ.ok s8;have q0:W0.cell? ⟨w.heap.size,0,none⟩=some (.int .i64 f.unit):=B0.cell 0;have hnu:=hd0 (aK W0 f.unit (hT.all hbW) r0);have hlu:([]:B).length+(ax mG [af f.unit]).length<=10000000000:=by rw[HT0.out];simp only[ln];omega
 clear hW0 hfc hkW;go_wp2_with (first
  |(go_at_call 21;refine hnu.out.mono ?_;rintro e w1 ⟨rfl,hb1⟩)
  |(go_at_call 20;refine(jE w1 w1.heap.size 1 rfl w.heap.size (w.heap.size+1) fc [] mG [af f.unit] rfl (hp0.below hb1) hlu).mono ?_;rintro e W1 ⟨rfl,hp1,hk1,VO⟩;have l5:W1.cell? ⟨w.heap.size,5,none⟩=some (.slice A5 f.aeP.length c5):=(hk1.bk (B0.below hb1) (by decide) (by decide)).cell 5))
 have bg:Hid (oH w W0 w.heap.size (w.heap.size+1) fc T0 W1):=by rw[HT0.out] at hp1;exact⟨hp1,(KP.below hb1).trans hk1,hbW.trans ((hb1.mono (by omega)).trans VO)⟩
 clear q0 hnu hp1 hk1 VO;have l30:W1.cell? ⟨w.heap.size,5,none⟩=some (.slice A5 f.aeP.length c5):=(bg.out.2.1.bk B0 (by decide) (by decide)).cell 5;go_wp2_with fail
 go_loopw [30] (fun i wr=>∃k:Nat,k<=f.aeP.length/\i= .int .i64 k/\oH w W0 w.heap.size (w.heap.size+1) fc (T0++(f.aeP.take k).flatMap dF) wr) (fun i _=>f.aeP.length - (intOf i).toNat)
 case atStart=>exact⟨0,nz _,rfl,by simpa using bg.out⟩
 case round=>
  obtain⟨k,hk,rfl,aJ⟩:=hrel;clear l30 bg;have hkr:KP W0 wr:=aJ.2.1;have iP:=hkr.size;have bg:=hd0 aJ;by_cases hlt:k<f.aeP.length
  ·have hkb:k<=10000000000:=nt (ahf hlt) n5;have hTr:Tabs wr:=hT.below aJ.2.2 hG;have oD:PN wr (w.heap.size+1) f.aeN:=hP0.kp hp0 aJ.1 hkr;have hpr:=aJ.1;have hsl:=hkr.sl ae2.ok s5;clear aJ;obtain⟨b,o,y,rfl,-,hy,q0,q1,q2,q3,r1,r2,r3⟩:=hsl.afE hlt;have hsn:=hd0 (bG dF f.aeP k y hy.out);have hle:=bu dF f.aeP k y hy.out;have hll:(T0++(f.aeP.take k).flatMap dF).length+(dF y).length<=10000000000:=by simp only[la];omega
   obtain⟨y0,y1,y2,y3⟩:=y;dsimp only at q0 q1 q2 q3 r1 r2 r3;have uO:(T0++(f.aeP.take k).flatMap dF).length+(ax yD [y0,af y1,af y2,af y3]).length<=10000000000:=hll;clear hy hle hll hsl;go_wp2_with fail
   obtain⟨W2,hW2⟩:∃W2,wr.alloc (.cells #[.string ⟨y0.toArray⟩,.int .i64 y1,.int .i64 y2,.int .i64 y3] 84)=W2:=⟨_,rfl⟩
   rw[hW2];have hb0:Below wr.heap.size wr W2:=by rw[<-hW2];exact(agE _ _).alloc (ai _) _
   have BV:Bk W2 wr.heap.size 84 #[.string ⟨y0.toArray⟩,.int .i64 y1,.int .i64 y2,.int .i64 y3]:=by rw[<-hW2];exact Bk.new _ _ _
   have Hy:=hb0.size;clear hW2 q0 q1 q2 q3;have hT2:=hTr.all hb0;have hP2:=oD.below hb0;have rD:=hpr.below hb0;have v0:W2.cell? ⟨wr.heap.size,0,none⟩=some (.string ⟨y0.toArray⟩):=BV.cell 0;have v1:W2.cell? ⟨wr.heap.size,1,none⟩=some (.int .i64 y1):=BV.cell 1;have v2:W2.cell? ⟨wr.heap.size,2,none⟩=some (.int .i64 y2):=BV.cell 2;have v3:W2.cell? ⟨wr.heap.size,3,none⟩=some (.int .i64 y3):=BV.cell 3
   go_region_held3 (fun w'=>w'.cell? ⟨wr.heap.size,0,none⟩=some (.string ⟨y0.toArray⟩)/\w'.cell? ⟨wr.heap.size,1,none⟩=some (.int .i64 y1)/\w'.cell? ⟨wr.heap.size,2,none⟩=some (.int .i64 y2)/\w'.cell? ⟨wr.heap.size,3,none⟩=some (.int .i64 y3))
    (first
     |exact⟨(hkz.bk (BV.below hc3) (by decide) (by decide)).cell 0,(hkz.bk (BV.below hc3) (by decide) (by decide)).cell 1,(hkz.bk (BV.below hc3) (by decide) (by decide)).cell 2,(hkz.bk (BV.below hc3) (by decide) (by decide)).cell 3⟩
     |exact⟨bK _ (ae hc3 v0),bK _ (ae hc3 v1),bK _ (ae hc3 v2),bK _ (ae hc3 v3)⟩
     |exact⟨ae hc3 v0,ae hc3 v1,ae hc3 v2,ae hc3 v3⟩
     |exact⟨ae hc2 v0,ae hc2 v1,ae hc2 v2,ae hc2 v3⟩
     |exact⟨ae hc1 v0,ae hc1 v1,ae hc1 v2,ae hc1 v3⟩
     |go_keep)
    (first
     |(go_at_call 21;refine(aK _ y1 hT2.drew r1).mono ?_;rintro e w1 ⟨rfl,hb1⟩;have hc1:=iU hb1;have z1:=hc1.size)
     |(go_at_call 21;refine(aK _ y2 (hT2.all hc1) r2).mono ?_;rintro e w2 ⟨rfl,hb2⟩;have hc2:=bt hc1 hb2;have z2:=hc2.size)
     |(go_at_call 21;refine(aK _ y3 (hT2.all hc2) r3).mono ?_;rintro e w3 ⟨rfl,hb3⟩;have hc3:=bt hc2 hb3;have z3:=hc3.size)
     |(go_at_call 20;refine(jE w3 w3.heap.size 4 rfl w.heap.size (w.heap.size+1) fc _ yD [y0,af y1,af y2,af y3] rfl (rD.below hc3) uO).mono ?_;rintro e wz ⟨rfl,hpz,hkz,hbz⟩))
   go_wp2;go_roundw
   case rel=>exact⟨k+1,by omega,by simp,by rw[hsn.out,<-agR];exact hpz,bg.out.2.1.trans ((KP.below (bt hb0 hc3)).trans hkz),bg.out.2.2.trans (((bt hb0 hc3).mono (by omega)).trans hbz)⟩
   case measure=>simp[intOf];omega
  obtain rfl:k=f.aeP.length:=by omega
  rw[agK] at bg;clear hkr iP;have l52:wr.cell? ⟨w.heap.size,6,none⟩=some (.slice A6 f.regions.length c6):=(bg.out.2.1.bk B0 (by decide) (by decide)).cell 6;go_wp2_with fail
  go_loopw [52] (fun i wr=>∃k:Nat,k<=f.regions.length/\i= .int .i64 k/\oH w W0 w.heap.size (w.heap.size+1) fc (T0++f.aeP.flatMap dF++(f.regions.take k).flatMap bP) wr) (fun i _=>f.regions.length - (intOf i).toNat)
  case atStart=>exact⟨0,nz _,rfl,by simpa using bg.out⟩
  case round=>
   obtain⟨k,hk,rfl,aJ⟩:=hrel;clear l52 bg;have hkr:KP W0 wr:=aJ.2.1;have iP:=hkr.size;have bg:=hd0 aJ;by_cases hlt:k<f.regions.length
   ·have hkb:k<=10000000000:=nt (ahf hlt) n6;have hTr:Tabs wr:=hT.below aJ.2.2 hG;have oD:PN wr (w.heap.size+1) f.aeN:=hP0.kp hp0 aJ.1 hkr;have hpr:=aJ.1;have hsl:=hkr.sl aeY.ok s6;clear aJ;obtain⟨b,o,y,E0,e0,rfl,-,hy,q0,j0⟩:=hsl.region hlt;have hsn:=hd0 (bG bP f.regions k y hy.out);have hle:=bu bP f.regions k y hy.out;have hll:(T0++f.aeP.flatMap dF++(f.regions.take k).flatMap bP).length+(bP y).length<=10000000000:=by simp only[la];omega
    obtain⟨y⟩:=y;dsimp only at q0 j0;have hyl:y.length<=10000000000:=by have h1:=zU y;have h2:=jw lM (y.flatMap iy);have h3:bP ⟨y⟩=ax lM (y.flatMap iy):=rfl;rw[h3] at hle;omega
    have hba:Below wr.heap.size wr (wr.alloc (.cells #[.slice E0 y.length e0] 89)):=(agE _ _).alloc (ai _) _;have hka:=KP.below hba;have hR:=hd0 (OD _ w.heap.size (w.heap.size+1) fc _ E0 e0 y (hTr.all hba) (hpr.below hba) (nt Xg (nt iP hba.size)) (hka.sl afu.ok j0) hyl (nt hll (by decide)));have BN:=hd0 hka;have AO:=hd0 hba;clear hy hle hll hsl hka hba hTr oD hpr;go_wp2_with (go_at_call 22;refine hR.out.mono ?_;rintro e wz ⟨rfl,hpz,hkz,hbz⟩)
    go_roundw
    case rel=>exact⟨k+1,by omega,by simp,by rw[hsn.out,<-agR];exact hpz,bg.out.2.1.trans (BN.out.trans hkz),bg.out.2.2.trans ((AO.out.mono (by omega)).trans hbz)⟩
    case measure=>simp[intOf];omega
   obtain rfl:k=f.regions.length:=by omega
   rw[agK] at bg;clear hkr iP;have l8:wr.cell? ⟨w.heap.size,8,none⟩=some (.slice A8 f.cvt.length c8):=(bg.out.2.1.bk B0 (by decide) (by decide)).cell 8
   go_upto_if 63 with fail
   go_cut [3,63] from 64 to 68 (fun s3 _ wx=>s3= .pointer (some ⟨w.heap.size+1,0,none⟩)/\oH w W0 w.heap.size (w.heap.size+1) fc (T0++f.aeP.flatMap dF++f.regions.flatMap bP++iV f.cvt) wx)
   case first=>
    have aJ:=bg.out;have hkr:KP W0 wr:=aJ.2.1;have iP:=hkr.size;have hTr:Tabs wr:=hT.below aJ.2.2 hG;have hpr:=aJ.1;have hsl:=hkr.sl aeQ.ok s8;clear aJ;by_cases h0:f.cvt=[]
    ·have hz:iV f.cvt=[]:=by rw[h0];rfl
     have hz0:¬(0<f.cvt.length):=by rw[h0];simp
     have Hz:=hd0 hz;clear hz h0;go_wp2_with fail
     go_meet
     rw[Hz.out,ag8];exact⟨rfl,bg.out⟩
    have hz:iV f.cvt=ax lY (f.cvt.map af):=by unfold iV;rw[if_neg (by simpa using h0)]
    have hz0:0<f.cvt.length:=aho.2 h0;have hw1:=jw lY (f.cvt.map af);have uO:(T0++f.aeP.flatMap dF++f.regions.flatMap bP).length+(ax lY (f.cvt.map af)).length<=10000000000:=by rw[<-hz];simp only[la];omega
    have hyl:f.cvt.length<=10000000000:=by rw[agL] at hw1;omega
    have hnl:Hid (f.cvt.length=(f.cvt.map af).length):=hd0 (agL af).symm;have GU:Hid ((T0++f.aeP.flatMap dF++f.regions.flatMap bP).length+(ax lY (f.cvt.map af)).length<=1000000000000/\(f.cvt.map af).length<=1000000000000):=hd0 ⟨by omega,by omega⟩;have hI:=hd0 (qZ wr A8 c8 f.cvt hTr hsl (by omega));have Hz:=hd0 hz;clear hz h0 uO hw1;go_wp2_with (first
     |(go_at_call 23;refine hI.out.mono ?_;rintro e w1 ⟨Aw,cw,rfl,how,hb1⟩;have z1:=hb1.size)
     |(go_at_call 20;refine(lh w1 w.heap.size (w.heap.size+1) fc _ lY Aw cw f.cvt.length (f.cvt.map af) hnl.out (hpr.below hb1) (jP how) GU.out).mono ?_;rintro e wz ⟨rfl,hpz,hkz,hbz⟩))
    go_meet
    rw[Hz.out];exact⟨rfl,hpz,bg.out.2.1.trans ((KP.below hb1).trans hkz),bg.out.2.2.trans ((hb1.mono (by omega)).trans hbz)⟩
   case rest=>
    obtain⟨rfl,aJ⟩:=hcut;clear bg l8;have bg:=hd0 aJ;clear aJ;have l72:wc.cell? ⟨w.heap.size,7,none⟩=some (.slice A7 f.funcs.length c7):=(bg.out.2.1.bk B0 (by decide) (by decide)).cell 7;go_wp2_with fail
    go_loopw [72] (fun i wr=>∃k:Nat,k<=f.funcs.length/\i= .int .i64 k/\oH w W0 w.heap.size (w.heap.size+1) fc (T0++f.aeP.flatMap dF++f.regions.flatMap bP++iV f.cvt++(f.funcs.take k).flatMap eP) wr) (fun i _=>f.funcs.length - (intOf i).toNat)
    case atStart=>exact⟨0,nz _,rfl,by simpa using bg.out⟩
    case round=>
     obtain⟨k,hk,rfl,aJ⟩:=hrel;clear l72 bg;have hkr:KP W0 wr:=aJ.2.1;have iP:=hkr.size;have bg:=hd0 aJ;by_cases hlt:k<f.funcs.length
     ·have hkb:k<=10000000000:=nt (ahf hlt) n7;have hTr:Tabs wr:=hT.below aJ.2.2 hG;have oD:PN wr (w.heap.size+1) f.aeN:=hP0.kp hp0 aJ.1 hkr;have hpr:=aJ.1;have hsl:=hkr.sl ae1.ok s7;clear aJ;obtain⟨b,o,y,E0,e0,rfl,-,hy,q0,j0⟩:=hsl.code hlt;have hsn:=hd0 (bG eP f.funcs k y hy.out);have hle:=bu eP f.funcs k y hy.out;have hll:(T0++f.aeP.flatMap dF++f.regions.flatMap bP++iV f.cvt++(f.funcs.take k).flatMap eP).length+(eP y).length<=10000000000:=by simp only[la];omega
      have hw1:=jw tH (y.map bW);have uO:(T0++f.aeP.flatMap dF++f.regions.flatMap bP++iV f.cvt++(f.funcs.take k).flatMap eP).length+(ax tH (y.map bW)).length<=10000000000:=hll;have hyl:y.length<=10000000000:=by rw[agL] at hw1;omega
      have hnl:Hid (y.length=(y.map bW).length):=hd0 (agL bW).symm;have LP:(T0++f.aeP.flatMap dF++f.regions.flatMap bP++iV f.cvt++(f.funcs.take k).flatMap eP).length+(ax tH (y.map bW)).length<=1000000000000/\(y.map bW).length<=1000000000000:=⟨by omega,by omega⟩
      have GU:=hd0 LP;have hI:=hd0 (sQ wr E0 e0 y hTr j0 (by omega));clear hy hle hll hsl uO hw1 LP;go_wp2_with (first
       |(go_at_call 24;refine hI.out.mono ?_;rintro e w1 ⟨Aw,cw,rfl,how,hb1⟩;have z1:=hb1.size)
       |(go_at_call 20;refine(lh w1 w.heap.size (w.heap.size+1) fc _ tH Aw cw y.length (y.map bW) hnl.out (hpr.below hb1) (jP how) GU.out).mono ?_;rintro e wz ⟨rfl,hpz,hkz,hbz⟩))
      go_roundw
      case rel=>exact⟨k+1,by omega,by simp,by rw[hsn.out,<-agR];exact hpz,bg.out.2.1.trans ((KP.below hb1).trans hkz),bg.out.2.2.trans ((hb1.mono (by omega)).trans hbz)⟩
      case measure=>simp[intOf];omega
     obtain rfl:k=f.funcs.length:=by omega
     rw[agK] at bg;clear hkr iP;have l84:wr.cell? ⟨w.heap.size,1,none⟩=some (.slice A1 f.aeN.length c1):=(bg.out.2.1.bk B0 (by decide) (by decide)).cell 1;go_wp2_with fail
     go_loopw [84] (fun i wr=>∃k:Nat,k<=f.aeN.length/\i= .int .i64 k/\oH w W0 w.heap.size (w.heap.size+1) fc (T0++f.aeP.flatMap dF++f.regions.flatMap bP++iV f.cvt++f.funcs.flatMap eP++(f.aeN.take k).flatMap (dn f.aeN)) wr) (fun i _=>f.aeN.length - (intOf i).toNat)
     case atStart=>exact⟨0,nz _,rfl,by simpa using bg.out⟩
     case round=>
      obtain⟨k,hk,rfl,aJ⟩:=hrel;clear l84 bg;have hkr:KP W0 wr:=aJ.2.1;have iP:=hkr.size;have bg:=hd0 aJ;by_cases hlt:k<f.aeN.length
      ·have hkb:k<=10000000000:=nt (ahf hlt) n1;have hTr:Tabs wr:=hT.below aJ.2.2 hG;have oD:PN wr (w.heap.size+1) f.aeN:=hP0.kp hp0 aJ.1 hkr;have hpr:=aJ.1;have hsl:=hkr.sl aeU.ok s1;clear aJ;obtain⟨b,o,y,E3,e3,E4,e4,E5,e5,E6,e6,E7,e7,E8,e8,rfl,-,hy,q0,q1,q2,q3,q4,q5,q6,q7,q8,r1,j3,j4,j5,j6,j7,j8⟩:=hsl.aeT hlt;have hsn:=hd0 (bG (dn f.aeN) f.aeN k y hy.out);have hle:=bu (dn f.aeN) f.aeN k y hy.out;have hll:(T0++f.aeP.flatMap dF++f.regions.flatMap bP++iV f.cvt++f.funcs.flatMap eP++(f.aeN.take k).flatMap (dn f.aeN)).length+((dn f.aeN) y).length<=10000000000:=by simp only[la];omega
       obtain⟨hpn,hen⟩:=hS y (agM hy.out);have hhn:y.hint.length<=1000000000:=hH y (agM hy.out);have hba:Below wr.heap.size wr (wr.alloc (.cells #[.string ⟨y.name.toArray⟩,.int .i64 y.advance,.bool y.mark,.slice E3 y.points.length e3,.slice E4 y.ends.length e4,.slice E5 y.parts.length e5,.slice E6 y.anchors.length e6,.slice E7 y.deltas.length e7,.slice E8 y.hint.length e8] 57)):=(agE _ _).alloc (ai _) _;have hka:=KP.below hba;have hR:=hd0 (KU _ w.heap.size (w.heap.size+1) fc _ f.aeN E3 E4 E5 E6 E7 E8 e3 e4 e5 e6 e7 e8 y (hTr.all hba) hG (oD.below hba) hgl (hpr.below hba) (nt Xg (nt iP hba.size)) r1 (hka.sl PtR.ok j3) (hka.sl aeQ.ok j4) (hka.sl afg.ok j5) (hka.sl ae6.ok j6) (hka.sl afc.ok j7) (hka.sl ae9.ok j8) hpn hen hhn hll);have BN:=hd0 hka;have AO:=hd0 hba;clear hy hle hll hsl hka hba hTr oD hpr;go_wp2_with (go_at_call 25;refine hR.out.mono ?_;rintro e wz ⟨rfl,hpz,hkz,hbz⟩)
       go_roundw
       case rel=>exact⟨k+1,by omega,by simp,by rw[hsn.out,<-agR];exact hpz,bg.out.2.1.trans (BN.out.trans hkz),bg.out.2.2.trans ((AO.out.mono (by omega)).trans hbz)⟩
       case measure=>simp[intOf];omega
      obtain rfl:k=f.aeN.length:=by omega
      rw[agK] at bg;clear hkr iP;have l95:wr.cell? ⟨w.heap.size,2,none⟩=some (.slice A2 f.chars.length c2):=(bg.out.2.1.bk B0 (by decide) (by decide)).cell 2;go_wp2_with fail
      go_loopw [95] (fun i wr=>∃k:Nat,k<=f.chars.length/\i= .int .i64 k/\oH w W0 w.heap.size (w.heap.size+1) fc (T0++f.aeP.flatMap dF++f.regions.flatMap bP++iV f.cvt++f.funcs.flatMap eP++f.aeN.flatMap (dn f.aeN)++(f.chars.take k).flatMap (jc f.aeN)) wr) (fun i _=>f.chars.length - (intOf i).toNat)
      case atStart=>exact⟨0,nz _,rfl,by simpa using bg.out⟩
      case round=>
       obtain⟨k,hk,rfl,aJ⟩:=hrel;clear l95 bg;have hkr:KP W0 wr:=aJ.2.1;have iP:=hkr.size;have bg:=hd0 aJ;by_cases hlt:k<f.chars.length
       ·have hkb:k<=10000000000:=nt (ahf hlt) n2;have hTr:Tabs wr:=hT.below aJ.2.2 hG;have oD:PN wr (w.heap.size+1) f.aeN:=hP0.kp hp0 aJ.1 hkr;have hpr:=aJ.1;have hsl:=hkr.sl afb.ok s2;clear aJ;obtain⟨b,o,y,rfl,-,hy,q0,q1,r0,r1⟩:=hsl.chr hlt;have hsn:=hd0 (bG (jc f.aeN) f.chars k y hy.out);have hle:=bu (jc f.aeN) f.chars k y hy.out;have hll:(T0++f.aeP.flatMap dF++f.regions.flatMap bP++iV f.cvt++f.funcs.flatMap eP++f.aeN.flatMap (dn f.aeN)++(f.chars.take k).flatMap (jc f.aeN)).length+((jc f.aeN) y).length<=10000000000:=by simp only[la];omega
        obtain⟨y0,y1⟩:=y;dsimp only at q0 q1 r0 r1;have uO:(T0++f.aeP.flatMap dF++f.regions.flatMap bP++iV f.cvt++f.funcs.flatMap eP++f.aeN.flatMap (dn f.aeN)++(f.chars.take k).flatMap (jc f.aeN)).length+(ax yC [af y0,bM f.aeN y1]).length<=10000000000:=hll;clear hy hle hll hsl;go_wp2_with fail
        obtain⟨W2,hW2⟩:∃W2,wr.alloc (.cells #[.int .i64 y0,.int .i64 y1] 74)=W2:=⟨_,rfl⟩
        rw[hW2];have hb0:Below wr.heap.size wr W2:=by rw[<-hW2];exact(agE _ _).alloc (ai _) _
        have BV:Bk W2 wr.heap.size 74 #[.int .i64 y0,.int .i64 y1]:=by rw[<-hW2];exact Bk.new _ _ _
        have Hy:=hb0.size;clear hW2 q0 q1;have hT2:=hTr.all hb0;have hP2:=oD.below hb0;have rD:=hpr.below hb0;have v0:W2.cell? ⟨wr.heap.size,0,none⟩=some (.int .i64 y0):=BV.cell 0;have v1:W2.cell? ⟨wr.heap.size,1,none⟩=some (.int .i64 y1):=BV.cell 1
        go_region_held3 (fun w'=>w'.cell? ⟨wr.heap.size,0,none⟩=some (.int .i64 y0)/\w'.cell? ⟨wr.heap.size,1,none⟩=some (.int .i64 y1))
         (first
          |exact⟨(hkz.bk (BV.below hc2) (by decide) (by decide)).cell 0,(hkz.bk (BV.below hc2) (by decide) (by decide)).cell 1⟩
          |exact⟨bK _ (ae hc2 v0),bK _ (ae hc2 v1)⟩
          |exact⟨ae hc2 v0,ae hc2 v1⟩
          |exact⟨ae hc1 v0,ae hc1 v1⟩
          |go_keep)
         (first
          |(go_at_call 21;refine(aK _ y0 hT2.drew r0).mono ?_;rintro e w1 ⟨rfl,hb1⟩;have hc1:=iU hb1;have z1:=hc1.size)
          |(go_at_call 26;refine(uK _ (w.heap.size+1) f.aeN y1 (hT2.all hc1) r1 (hP2.below hc1) hgl).mono ?_;rintro e w2 ⟨rfl,hb2⟩;have hc2:=bt hc1 hb2;have z2:=hc2.size)
          |(go_at_call 20;refine(jE w2 w2.heap.size 2 rfl w.heap.size (w.heap.size+1) fc _ yC [af y0,bM f.aeN y1] rfl (rD.below hc2) uO).mono ?_;rintro e wz ⟨rfl,hpz,hkz,hbz⟩))
        go_wp2;go_roundw
        case rel=>exact⟨k+1,by omega,by simp,by rw[hsn.out,<-agR];exact hpz,bg.out.2.1.trans ((KP.below (bt hb0 hc2)).trans hkz),bg.out.2.2.trans (((bt hb0 hc2).mono (by omega)).trans hbz)⟩
        case measure=>simp[intOf];omega
       obtain rfl:k=f.chars.length:=by omega
       rw[agK] at bg;clear hkr iP;have aat:wr.cell? ⟨w.heap.size,3,none⟩=some (.slice A3 f.aeO.length c3):=(bg.out.2.1.bk B0 (by decide) (by decide)).cell 3;go_wp2_with fail
       go_loopw [113] (fun i wr=>∃k:Nat,k<=f.aeO.length/\i= .int .i64 k/\oH w W0 w.heap.size (w.heap.size+1) fc (T0++f.aeP.flatMap dF++f.regions.flatMap bP++iV f.cvt++f.funcs.flatMap eP++f.aeN.flatMap (dn f.aeN)++f.chars.flatMap (jc f.aeN)++(f.aeO.take k).flatMap (di f.aeN)) wr) (fun i _=>f.aeO.length - (intOf i).toNat)
       case atStart=>exact⟨0,nz _,rfl,by simpa using bg.out⟩
       case round=>
        obtain⟨k,hk,rfl,aJ⟩:=hrel;clear aat bg;have hkr:KP W0 wr:=aJ.2.1;have iP:=hkr.size;have bg:=hd0 aJ;by_cases hlt:k<f.aeO.length
        ·have hkb:k<=10000000000:=nt (ahf hlt) n3;have hTr:Tabs wr:=hT.below aJ.2.2 hG;have oD:PN wr (w.heap.size+1) f.aeN:=hP0.kp hp0 aJ.1 hkr;have hpr:=aJ.1;have hsl:=hkr.sl aeV.ok s3;clear aJ;obtain⟨b,o,y,E2,e2,rfl,-,hy,q0,q1,q2,r0,j2⟩:=hsl.lookup hlt;have hsn:=hd0 (bG (di f.aeN) f.aeO k y hy.out);have hle:=bu (di f.aeN) f.aeO k y hy.out;have hll:(T0++f.aeP.flatMap dF++f.regions.flatMap bP++iV f.cvt++f.funcs.flatMap eP++f.aeN.flatMap (dn f.aeN)++f.chars.flatMap (jc f.aeN)++(f.aeO.take k).flatMap (di f.aeN)).length+((di f.aeN) y).length<=10000000000:=by simp only[la];omega
         have hrl:y.rules.length<=10000000000:=by have h1:=jR (kU f.aeN y.kind) (fun _=>iJ _ _) y.rules;have h2:di f.aeN y=ax iT (pick bF y.kind::if y.afh then [lK] else [])++y.rules.flatMap (kU f.aeN y.kind):=rfl;rw[h2,la] at hle;omega
         have hba:Below wr.heap.size wr (wr.alloc (.cells #[.int .i64 y.kind,.bool y.afh,.slice E2 y.rules.length e2] 60)):=(agE _ _).alloc (ai _) _;have hka:=KP.below hba;have hR:=hd0 (OJ _ w.heap.size (w.heap.size+1) fc _ f.aeN E2 e2 y (hTr.all hba) hG (oD.below hba) hgl (hpr.below hba) (nt Xg (nt iP hba.size)) (hka.sl ae8.ok j2) hrl hll);have BN:=hd0 hka;have AO:=hd0 hba;clear hy hle hll hsl hka hba hTr oD hpr;go_wp2_with (go_at_call 27;refine hR.out.mono ?_;rintro e wz ⟨rfl,hpz,hkz,hbz⟩)
         go_roundw
         case rel=>exact⟨k+1,by omega,by simp,by rw[hsn.out,<-agR];exact hpz,bg.out.2.1.trans (BN.out.trans hkz),bg.out.2.2.trans ((AO.out.mono (by omega)).trans hbz)⟩
         case measure=>simp[intOf];omega
        obtain rfl:k=f.aeO.length:=by omega
        rw[agK] at bg;clear hkr iP;have aa7:wr.cell? ⟨w.heap.size,4,none⟩=some (.slice A4 f.features.length c4):=(bg.out.2.1.bk B0 (by decide) (by decide)).cell 4;go_wp2_with fail
        go_loopw [124] (fun i wr=>∃k:Nat,k<=f.features.length/\i= .int .i64 k/\oH w W0 w.heap.size (w.heap.size+1) fc (T0++f.aeP.flatMap dF++f.regions.flatMap bP++iV f.cvt++f.funcs.flatMap eP++f.aeN.flatMap (dn f.aeN)++f.chars.flatMap (jc f.aeN)++f.aeO.flatMap (di f.aeN)++(f.features.take k).flatMap gy) wr) (fun i _=>f.features.length - (intOf i).toNat)
        case atStart=>exact⟨0,nz _,rfl,by simpa using bg.out⟩
        case round=>
         obtain⟨k,hk,rfl,aJ⟩:=hrel;clear aa7 bg;have hkr:KP W0 wr:=aJ.2.1;have iP:=hkr.size;have bg:=hd0 aJ;by_cases hlt:k<f.features.length
         ·have hkb:k<=10000000000:=nt (ahf hlt) n4;have hTr:Tabs wr:=hT.below aJ.2.2 hG;have oD:PN wr (w.heap.size+1) f.aeN:=hP0.kp hp0 aJ.1 hkr;have hpr:=aJ.1;have hsl:=hkr.sl aeW.ok s4;clear aJ;obtain⟨b,o,y,E1,e1,rfl,-,hy,q0,q1,j1⟩:=hsl.afH hlt;have hsn:=hd0 (bG gy f.features k y hy.out);have hle:=bu gy f.features k y hy.out;have hll:(T0++f.aeP.flatMap dF++f.regions.flatMap bP++iV f.cvt++f.funcs.flatMap eP++f.aeN.flatMap (dn f.aeN)++f.chars.flatMap (jc f.aeN)++f.aeO.flatMap (di f.aeN)++(f.features.take k).flatMap gy).length+(gy y).length<=10000000000:=by simp only[la];omega
          obtain⟨y0,y1⟩:=y;dsimp only at q0 q1 j1;have hw1:=jw lu (y0::y1.map af);have uO:(T0++f.aeP.flatMap dF++f.regions.flatMap bP++iV f.cvt++f.funcs.flatMap eP++f.aeN.flatMap (dn f.aeN)++f.chars.flatMap (jc f.aeN)++f.aeO.flatMap (di f.aeN)++(f.features.take k).flatMap gy).length+(ax lu (y0::y1.map af)).length<=10000000000:=hll;have hyl:y1.length<=10000000000:=by simp only[aV,agL] at hw1;omega
          have hnl:Hid (1+y1.length=(y0::y1.map af).length):=hd0 (by simp;omega);have GU:Hid ((T0++f.aeP.flatMap dF++f.regions.flatMap bP++iV f.cvt++f.funcs.flatMap eP++f.aeN.flatMap (dn f.aeN)++f.chars.flatMap (jc f.aeN)++f.aeO.flatMap (di f.aeN)++(f.features.take k).flatMap gy).length+(ax lu (y0::y1.map af)).length<=1000000000000/\(y0::y1.map af).length<=1000000000000):=hd0 ⟨by omega,by omega⟩;clear hy hle hll hsl uO hw1;have hkj:=hkr;go_wp2_with fail
          obtain⟨W2,hW2⟩:∃W2,wr.alloc (.cells #[.string ⟨y0.toArray⟩,.slice E1 y1.length e1] 82)=W2:=⟨_,rfl⟩
          rw[hW2];have hb0:Below wr.heap.size wr W2:=by rw[<-hW2];exact(agE _ _).alloc (ai _) _
          have BV:Bk W2 wr.heap.size 82 #[.string ⟨y0.toArray⟩,.slice E1 y1.length e1]:=by rw[<-hW2];exact Bk.new _ _ _
          have Hy:=hb0.size;clear hW2 q0 q1;have rD:=hpr.below hb0;have hT2:=hTr.all hb0;have hsB:=(KP.below hb0).sl aeQ.ok j1;have hbL:Below W2.heap.size W2 (W2.alloc (.cells #[.string ⟨y0.toArray⟩] 9)):=(agE _ _).alloc (ai _) _;have hTA:=(hT2.all hbL).drew;have hTB:=hT2.drew;have hsA:Sl aeQ 1 (W2.alloc (.cells #[.string ⟨y0.toArray⟩] 9)).drew (FT (W2.alloc (.cells #[.string ⟨y0.toArray⟩] 9)).drew) E1 y1:=(KP.below (agE _ _).drew).sl aeQ.ok ((KP.below hbL).sl aeQ.ok hsB);have aax:Sl aeQ 1 W2.drew (FT W2.drew) E1 y1:=(KP.below (agE _ _).drew).sl aeQ.ok hsB;have YI:y1.length<=100000000000:=by omega
          have WV:1+y1.length<=1000000000000:=by omega
          have v0:W2.cell? ⟨wr.heap.size,0,none⟩=some (.string ⟨y0.toArray⟩):=BV.cell 0;have v1:W2.cell? ⟨wr.heap.size,1,none⟩=some (.slice E1 y1.length e1):=BV.cell 1;have hoL:(W2.alloc (.cells #[.string ⟨y0.toArray⟩] 9)).ownsRow W2.heap.size 9 1 (.slice (some ⟨W2.heap.size,0,none⟩) 1 1) 1 [.string ⟨y0.toArray⟩]:=Kw W2 _ y0 (ai _);have HbL:=hd0 hbL;clear hbL
          go_region_held3 (fun w'=>w'.cell? ⟨wr.heap.size,0,none⟩=some (.string ⟨y0.toArray⟩)/\w'.cell? ⟨wr.heap.size,1,none⟩=some (.slice E1 y1.length e1))
           (first
            |exact⟨(hkz.bk (BV.below hcz) (by decide) (by decide)).cell 0,(hkz.bk (BV.below hcz) (by decide) (by decide)).cell 1⟩
            |exact⟨ae hcz v0,ae hcz v1⟩
            |exact⟨bK _ (ae hcB v0),bK _ (ae hcB v1)⟩
            |exact⟨ae hcA v0,ae hcA v1⟩
            |exact⟨ae hcB v0,ae hcB v1⟩
            |go_keep)
           (first
            |(go_at_call 23;refine(qZ (W2.alloc (.cells #[.string ⟨y0.toArray⟩] 9)).drew E1 e1 y1 hTA hsA YI).mono ?_;rintro e w1 ⟨Aw,cw,rfl,how,hb1⟩;have hc1:=iU hb1;have hcA:=bt HbL.out hc1;have z1:=hcA.size;have hoA:=own_below hoL hc1;have hrA:=eG how (agL af))
            |(go_at_call 23;refine(qZ W2.drew E1 e1 y1 hTB aax YI).mono ?_;rintro e w1 ⟨Aw,cw,rfl,how,hb1⟩;have hcB:=iU hb1;have z1:=hcB.size;have gK:=Kw w1 W2.heap.size y0 z1;have hrB:=Qy (o:=(.cells #[.string ⟨y0.toArray⟩] 9)) (eG how (agL af)))
            |(refine IK (by rfl) (.tmp 131) (.tmp 134) (by rfl) w1 W2.heap.size 1 1 _ _ w1.heap.size Aw y1.length cw (y1.map af) (by go_simp) (by go_simp) hoA hrA WV z1 ?_;intro A4 c4 w4 dS hg4;have hcz:=hcA.grown hg4 z1 (fun g e=>(hoA.lt g e).1))
            |(refine IK (by rfl) (.tmp 131) (.tmp 134) (by rfl) _ W2.heap.size 1 1 _ _ _ Aw y1.length cw (y1.map af) (by go_simp) (by go_simp) gK hrB WV (Hr z1) ?_;intro A4 c4 w4 dS hg4;have hcz:=(hcB.alloc z1 _).grown hg4 (Hr z1) (fun g e=>(gK.lt g e).1))
            |(go_at_call 20;refine(lh w4 w.heap.size (w.heap.size+1) fc _ lu A4 c4 (1+y1.length) (y0::y1.map af) hnl.out (rD.below hcz) (jP (ws:=y0::y1.map af) dS) GU.out).mono ?_;rintro e wz ⟨rfl,hpz,hkz,hbz⟩))
          all_goals
           go_wp2;go_roundw
           case rel=>exact⟨k+1,by omega,by simp,by rw[hsn.out,<-agR];exact hpz,bg.out.2.1.trans ((KP.below (bt hb0 hcz)).trans hkz),bg.out.2.2.trans (((bt hb0 hcz).mono (by omega)).trans hbz)⟩
           case measure=>simp[intOf];omega
         obtain rfl:k=f.features.length:=by omega
         rw[agK] at bg;clear hkr iP;obtain⟨TT,hTT⟩:∃TT,T0++f.aeP.flatMap dF++f.regions.flatMap bP++iV f.cvt++f.funcs.flatMap eP++f.aeN.flatMap (dn f.aeN)++f.chars.flatMap (jc f.aeN)++f.aeO.flatMap (di f.aeN)++f.features.flatMap gy=TT:=⟨_,rfl⟩
         have hpr:=bg.out.1;have hbl:=bg.out.2.2;rw[hTT] at hpr hne HF;clear hTT bg;go_wp2_with (go_at_call 28;refine(LK wr w.heap.size (w.heap.size+1) fc _ hpr hne.out).mono ?_;rintro e wz ⟨rfl,hbz⟩)
         go_ret
         rw[HF.out];exact⟨rfl,hbl.trans hbz⟩
end Go.Proofs.YtkijckccfookeaaDoor
