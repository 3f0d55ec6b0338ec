/- Lemmas. -/
import Derived.Test.YtkijckccfookeaaGreatDoorUnH
set_option linter.unusedVariables false
set_option linter.unusedSimpArgs false
set_option maxRecDepth 100000
set_option maxHeartbeats 32000000
namespace Go.Proofs.YtkijckccfookeaaGreatDoor
open Go.RowKit Go.Shelf Go.Sort
def jR (l:List Int):B:=if l.isEmpty then [] else ay mr (l.map ah)
theorem L6 (f:Fnt):lJ f=ay lI [ah f.unit]++f.akP.flatMap ed++f.regions.flatMap cZ++jR f.cvt++f.funcs.flatMap gJ++f.akJ.flatMap (dQ f.akJ)++f.chars.flatMap (jZ f.akJ)++f.akK.flatMap (dN f.akJ)++f.features.flatMap iT:=rfl
def af2 (l:List Value)(i:Nat):Value:=l.getD i undef
theorem SB (gs:List akN)(x:akN):1<=(dQ gs x).length:=by rw[Bi];have:1<=(Wv x).length:=jA _ _;simp only[la];omega
theorem abd (gs:List akN)(x:akN):x.hint.length<=(dQ gs x).length:=by
 rw[Bi];simp only[la];unfold Dw;split
 ·rename_i h;have:x.hint=[]:=by simpa using h
  rw[this];simp
 have:=kQ nO (x.hint.map dC);rw[anB] at this;omega
theorem ZM {α:Type}(f:α->B)(l:List α)(x:α)(h:x∈l):(f x).length<=(l.flatMap f).length:=by obtain⟨k,hk⟩:=anP.1 h;have:=bH f l k x hk;omega
theorem PW (gs:List akN)(x:Lookup):1<=(dN gs x).length:=by unfold dN;have:=jA gX (pick aG x.kind::if x.alr then [eU] else []);rw[la];omega
theorem Mc {ops:Array Oper}{o:Oper}{a:Act}{K:Act->World->Prop}{Q:Exit->Act->World->Prop}{E:Prop}(hgd:o.guard=none)(s x:Operand)
  (ho:o.op= .call {callee:= .builtin .append,args:= #[s,x],argTypes:= #[48,48]})
  (w1:World) (base n c:Nat) (A:Option Addr) (xs:List Value) (Bd:Nat) (A2:Option Addr) (m c2:Nat) (ws:List B) (hs:a.eval s= .slice A n c) (hx:a.eval x= .slice A2 m c2)
  (hown:w1.ownsRow base 9 1 (.slice A n c) n xs) (hr:Rd w1 Bd A2 m 1 (strs ws)) (hn:n+m<=1000000000000) (hb:base<=w1.heap.size)
  (h:∀A' c' w',w'.ownsRow base 9 1 (.slice A' (n+m) c') (n+m) (xs++strs ws)->w1.grownBy w' (Value.slice A n c).ownBlock->K (a.put o.dst (.slice A' (n+m) c')) w'):
  if Region.wanted o (yielded ops a.tmps)=true then Oper.wp Tryz.prog o a w1 K Q else E:=by
 obtain⟨i0,hi0,hz0,hz1,hz2⟩:=info_parts DF;refine xY _ hgd s x 48 ho base 9 i0 _ 1 16 Tryz.underlying48 hi0 hz0 hz1 hz2 rfl (by decide) (.slice A n c) n xs hs hown Bd A2 m c2 (strs ws) hx hr (EX ws) (by simp only[maxLen];omega) (by omega) hb ?_;intro v' w' ho' hg _;obtain⟨A',c',rfl⟩:=yV ho';exact h A' c' w' ho' hg
theorem QE (w:World)(base:Nat)(y:B)(h:base<=w.heap.size):(w.alloc (.cells #[.string ⟨y.toArray⟩] 9)).ownsRow base 9 1 (.slice (some ⟨w.heap.size,0,none⟩) 1 1) 1 [.string ⟨y.toArray⟩]:=⟨rfl,.inr ⟨w.heap.size,1,#[.string ⟨y.toArray⟩],rfl,h,heap_alloc_new w _,af _,by decide,rfl,rfl⟩⟩
theorem ZJ {w:World}{A:Option Addr}{n size:Nat}{cs:List Value}{o:Obj}(h:Rd w w.heap.size A n size cs):Rd (w.alloc o) w.heap.size A n size cs:=h.alloc (af _) o
theorem Pz {w:World}{o:Obj}{n:Nat}(h:n<=w.heap.size):n<=(w.alloc o).heap.size:=by simp;omega
theorem Jz (w:World)(f:Fnt) A1 A2 A3 A4 A5 A6 A7 A8 c1 c2 c3 c4 c5 c6 c7 c8 (hT:Tabs w) (hG:nG<=w.heap.size) (r0:I64 f.unit) (s1:Sl akQ 9 w (FT w) A1 f.akJ) (s2:Sl alm 2 w (FT w) A2 f.chars) (s3:Sl akS 3 w (FT w) A3 f.akK) (s4:Sl akR 2 w (FT w) A4 f.features) (s5:Sl ale 4 w (FT w) A5 f.akP) (s6:Sl akU 1 w (FT w) A6 f.regions) (s7:Sl ak6 1 w (FT w) A7 f.funcs) (s8:Sl akL 1 w (FT w) A8 f.cvt)
  (hS:∀g∈f.akJ,g.points.length<=1000000000/\g.ends.length<=1000000000) (hL:(lJ f).length<=1000000000):
  Calls Tryz.prog 20 #[.agg #[.int .i64 f.unit,.slice A1 f.akJ.length c1,.slice A2 f.chars.length c2,.slice A3 f.akK.length c3,.slice A4 f.features.length c4,.slice A5 f.akP.length c5,.slice A6 f.regions.length c6,.slice A7 f.funcs.length c7,.slice A8 f.cvt.length c8]] w fun e w'=>e= .returned (.string ⟨(lJ f).toArray⟩)/\Below w.heap.size w w':=by
 have HF:=hd0 (L6 f);rw[L6] at hL;obtain⟨T0,SS⟩:∃T0,ay lI [ah f.unit]=T0:=⟨_,rfl⟩
 rw[SS] at hL HF;have HT0:=hd0 SS;have afo:T0.length+(f.akP.flatMap ed).length+(f.regions.flatMap cZ).length+(jR f.cvt).length+(f.funcs.flatMap gJ).length+(f.akJ.flatMap (dQ f.akJ)).length+(f.chars.flatMap (jZ f.akJ)).length+(f.akK.flatMap (dN f.akJ)).length+(f.features.flatMap iT).length<=1000000000:=by simp only[la] at hL;omega
 have hne:Hid (T0++f.akP.flatMap ed++f.regions.flatMap cZ++jR f.cvt++f.funcs.flatMap gJ++f.akJ.flatMap (dQ f.akJ)++f.chars.flatMap (jZ f.akJ)++f.akK.flatMap (dN f.akJ)++f.features.flatMap iT≠[]):=hd0 (by
  intro h;have:=congrArg List.length h;rw[<-SS] at this;have h2:=jA lI [ah f.unit];simp only[la,ln] at this;omega)
 clear SS hL;have n1:f.akJ.length<=10000000000:=by have:=lT (dQ f.akJ) (SB f.akJ) f.akJ;omega
 have n2:f.chars.length<=10000000000:=by have:=lT (jZ f.akJ) (fun _=>jA _ _) f.chars;omega
 have n3:f.akK.length<=10000000000:=by have:=lT (dN f.akJ) (PW f.akJ) f.akK;omega
 have n4:f.features.length<=10000000000:=by have:=lT iT (fun _=>jA _ _) f.features;omega
 have n5:f.akP.length<=10000000000:=by have:=lT ed (fun _=>jA _ _) f.akP;omega
 have n6:f.regions.length<=10000000000:=by have:=lT cZ (fun _=>jA _ _) f.regions;omega
 have n7:f.funcs.length<=10000000000:=by have:=lT gJ (fun _=>jA _ _) f.funcs;omega
 have hgl:f.akJ.length<=1000000000000:=by omega
 have hH:∀y∈f.akJ,y.hint.length<=1000000000:=fun y hy=>by have h1:=abd f.akJ y;have h2:=ZM (dQ f.akJ) f.akJ y hy;omega
 have hS:=hd0 hS;have hH:=hd0 hH;go_enter Tryz.func20,Tryz.ntmps20
 go_upto_region 2 with fail
 obtain⟨W0,hW0⟩:∃W0,(w.alloc (.cells #[.int .i64 f.unit,.slice A1 f.akJ.length c1,.slice A2 f.chars.length c2,.slice A3 f.akK.length c3,.slice A4 f.features.length c4,.slice A5 f.akP.length c5,.slice A6 f.regions.length c6,.slice A7 f.funcs.length c7,.slice A8 f.cvt.length c8] 32)).alloc (.cells #[.int .i64 f.unit,.slice A1 f.akJ.length c1,.slice A2 f.chars.length c2,.slice A3 f.akK.length c3,.slice A4 f.features.length c4,.slice A5 f.akP.length c5,.slice A6 f.regions.length c6,.slice A7 f.funcs.length c7,.slice A8 f.cvt.length c8,.pointer none,.slice none 0 0] 130)=W0:=⟨_,rfl⟩
 rw[hW0];have hbW:Below w.heap.size w W0:=by rw[<-hW0];exact((ant _ _).alloc (af _) _).alloc (by simp) _
 have B0:Bk W0 w.heap.size 32 #[.int .i64 f.unit,.slice A1 f.akJ.length c1,.slice A2 f.chars.length c2,.slice A3 f.akK.length c3,.slice A4 f.features.length c4,.slice A5 f.akP.length c5,.slice A6 f.regions.length c6,.slice A7 f.funcs.length c7,.slice A8 f.cvt.length c8]:=by rw[<-hW0];exact(Bk.new _ _ _).alloc _
 have B1:Bk W0 (w.heap.size+1) 130 #[.int .i64 f.unit,.slice A1 f.akJ.length c1,.slice A2 f.chars.length c2,.slice A3 f.akK.length c3,.slice A4 f.features.length c4,.slice A5 f.akP.length c5,.slice A6 f.regions.length c6,.slice A7 f.funcs.length c7,.slice A8 f.cvt.length c8,.pointer none,.slice none 0 0]:=by
  rw[<-hW0];have:=Bk.new (w.alloc (.cells #[.int .i64 f.unit,.slice A1 f.akJ.length c1,.slice A2 f.chars.length c2,.slice A3 f.akK.length c3,.slice A4 f.features.length c4,.slice A5 f.akP.length c5,.slice A6 f.regions.length c6,.slice A7 f.funcs.length c7,.slice A8 f.cvt.length c8] 32)) 130 #[.int .i64 f.unit,.slice A1 f.akJ.length c1,.slice A2 f.chars.length c2,.slice A3 f.akK.length c3,.slice A4 f.features.length c4,.slice A5 f.akP.length c5,.slice A6 f.regions.length c6,.slice A7 f.funcs.length c7,.slice A8 f.cvt.length c8,.pointer none,.slice none 0 0]
  rwa [World.size_alloc] at this
 obtain⟨fc,hfc⟩:∃fc:Nat->Value,PrC W0 (w.heap.size+1) fc (.pointer none) (.slice none 0 0):=⟨af2 [.int .i64 f.unit,.slice A1 f.akJ.length c1,.slice A2 f.chars.length c2,.slice A3 f.akK.length c3,.slice A4 f.features.length c4,.slice A5 f.akP.length c5,.slice A6 f.regions.length c6,.slice A7 f.funcs.length c7,.slice A8 f.cvt.length c8],B1⟩
 have z0:=hbW.size;have hwW:w.heap.size<=W0.heap.size:=z0;have hp0:Pr W0 w.heap.size (w.heap.size+1) fc []:=⟨_,_,by omega,hfc,.inl rfl,⟨rfl,.inl ⟨rfl,rfl⟩⟩⟩
 have hP0:PN W0 (w.heap.size+1) f.akJ:=⟨A1,c1,B1.cell 1,(KP.below hbW).sl akQ.ok s1⟩
 have hkW:=KP.below hbW;replace s1:=hkW.sl akQ.ok s1;replace s2:=hkW.sl alm.ok s2;replace s3:=hkW.sl akS.ok s3;replace s4:=hkW.sl akR.ok s4;replace s5:=hkW.sl ale.ok s5;replace s6:=hkW.sl akU.ok s6;replace s7:=hkW.sl ak6.ok s7;replace s8:=hkW.sl akL.ok s8;have q0:W0.cell? ⟨w.heap.size,0,none⟩=some (.int .i64 f.unit):=B0.cell 0;have hnu:=hd0 (aX W0 f.unit (hT.all hbW) r0);have hlu:([]:B).length+(ay lI [ah f.unit]).length<=10000000000:=by rw[HT0.out];simp only[ln];omega
 clear hW0 hfc hkW;go_wp2_with (first
  |(go_at_call 42;refine hnu.out.mono ?_;rintro e w1 ⟨rfl,hb1⟩)
  |(go_at_call 41;refine(lF w1 w1.heap.size 1 rfl w.heap.size (w.heap.size+1) fc [] lI [ah f.unit] rfl (hp0.below hb1) hlu).mono ?_;rintro e W1 ⟨rfl,hp1,hk1,acP⟩;have l5:W1.cell? ⟨w.heap.size,5,none⟩=some (.slice A5 f.akP.length c5):=(hk1.bk (B0.below hb1) (by decide) (by decide)).cell 5))
 have bG:Hid (tN w W0 w.heap.size (w.heap.size+1) fc T0 W1):=by rw[HT0.out] at hp1;exact⟨hp1,(KP.below hb1).trans hk1,hbW.trans ((hb1.mono (by omega)).trans acP)⟩
 clear q0 hnu hp1 hk1 acP;have l30:W1.cell? ⟨w.heap.size,5,none⟩=some (.slice A5 f.akP.length c5):=(bG.out.2.1.bk B0 (by decide) (by decide)).cell 5;go_wp2_with fail
 go_loopw [30] (fun i wr=>∃k:Nat,k<=f.akP.length/\i= .int .i64 k/\tN w W0 w.heap.size (w.heap.size+1) fc (T0++(f.akP.take k).flatMap ed) wr) (fun i _=>f.akP.length - (intOf i).toNat)
 case atStart=>exact⟨0,nz _,rfl,by simpa using bG.out⟩
 case round=>
  obtain⟨k,hk,rfl,aW⟩:=hrel;clear l30 bG;have hkr:KP W0 wr:=aW.2.1;have jI:=hkr.size;have bG:=hd0 aW;by_cases hlt:k<f.akP.length
  ·have hkb:k<=10000000000:=nt (aoa hlt) n5;have hTr:Tabs wr:=hT.below aW.2.2 hG;have rZ:PN wr (w.heap.size+1) f.akJ:=hP0.kp hp0 aW.1 hkr;have hpr:=aW.1;have hsl:=hkr.sl ale.ok s5;clear aW;obtain⟨b,o,y,rfl,-,hy,q0,q1,q2,q3,r1,r2,r3⟩:=hsl.am8 hlt;have hsn:=hd0 (bM ed f.akP k y hy.out);have hle:=bH ed f.akP k y hy.out;have hll:(T0++(f.akP.take k).flatMap ed).length+(ed y).length<=10000000000:=by simp only[la];omega
   obtain⟨y0,y1,y2,y3⟩:=y;dsimp only at q0 q1 q2 q3 r1 r2 r3;have zU:(T0++(f.akP.take k).flatMap ed).length+(ay uz [y0,ah y1,ah y2,ah y3]).length<=10000000000:=hll;clear hy hle hll hsl;go_wp2_with fail
   obtain⟨W2,hW2⟩:∃W2,wr.alloc (.cells #[.string ⟨y0.toArray⟩,.int .i64 y1,.int .i64 y2,.int .i64 y3] 99)=W2:=⟨_,rfl⟩
   rw[hW2];have hb0:Below wr.heap.size wr W2:=by rw[<-hW2];exact(ant _ _).alloc (af _) _
   have BV:Bk W2 wr.heap.size 99 #[.string ⟨y0.toArray⟩,.int .i64 y1,.int .i64 y2,.int .i64 y3]:=by rw[<-hW2];exact Bk.new _ _ _
   have NZ:=hb0.size;clear hW2 q0 q1 q2 q3;have hT2:=hTr.all hb0;have hP2:=rZ.below hb0;have wU:=hpr.below hb0;have v0:W2.cell? ⟨wr.heap.size,0,none⟩=some (.string ⟨y0.toArray⟩):=BV.cell 0;have v1:W2.cell? ⟨wr.heap.size,1,none⟩=some (.int .i64 y1):=BV.cell 1;have v2:W2.cell? ⟨wr.heap.size,2,none⟩=some (.int .i64 y2):=BV.cell 2;have v3:W2.cell? ⟨wr.heap.size,3,none⟩=some (.int .i64 y3):=BV.cell 3
   go_region_held3 (fun w'=>w'.cell? ⟨wr.heap.size,0,none⟩=some (.string ⟨y0.toArray⟩)/\w'.cell? ⟨wr.heap.size,1,none⟩=some (.int .i64 y1)/\w'.cell? ⟨wr.heap.size,2,none⟩=some (.int .i64 y2)/\w'.cell? ⟨wr.heap.size,3,none⟩=some (.int .i64 y3))
    (first
     |exact⟨(hkz.bk (BV.below hc3) (by decide) (by decide)).cell 0,(hkz.bk (BV.below hc3) (by decide) (by decide)).cell 1,(hkz.bk (BV.below hc3) (by decide) (by decide)).cell 2,(hkz.bk (BV.below hc3) (by decide) (by decide)).cell 3⟩
     |exact⟨bZ _ (ae hc3 v0),bZ _ (ae hc3 v1),bZ _ (ae hc3 v2),bZ _ (ae hc3 v3)⟩
     |exact⟨ae hc3 v0,ae hc3 v1,ae hc3 v2,ae hc3 v3⟩
     |exact⟨ae hc2 v0,ae hc2 v1,ae hc2 v2,ae hc2 v3⟩
     |exact⟨ae hc1 v0,ae hc1 v1,ae hc1 v2,ae hc1 v3⟩
     |go_keep)
    (first
     |(go_at_call 42;refine(aX _ y1 hT2.drew r1).mono ?_;rintro e w1 ⟨rfl,hb1⟩;have hc1:=jT hb1;have z1:=hc1.size)
     |(go_at_call 42;refine(aX _ y2 (hT2.all hc1) r2).mono ?_;rintro e w2 ⟨rfl,hb2⟩;have hc2:=bt hc1 hb2;have z2:=hc2.size)
     |(go_at_call 42;refine(aX _ y3 (hT2.all hc2) r3).mono ?_;rintro e w3 ⟨rfl,hb3⟩;have hc3:=bt hc2 hb3;have z3:=hc3.size)
     |(go_at_call 41;refine(lF w3 w3.heap.size 4 rfl w.heap.size (w.heap.size+1) fc _ uz [y0,ah y1,ah y2,ah y3] rfl (wU.below hc3) zU).mono ?_;rintro e wz ⟨rfl,hpz,hkz,hbz⟩))
   go_wp2;go_roundw
   case rel=>exact⟨k+1,by omega,by simp,by rw[hsn.out,<-anH];exact hpz,bG.out.2.1.trans ((KP.below (bt hb0 hc3)).trans hkz),bG.out.2.2.trans (((bt hb0 hc3).mono (by omega)).trans hbz)⟩
   case measure=>simp[intOf];omega
  obtain rfl:k=f.akP.length:=by omega
  rw[anA] at bG;clear hkr jI;have l52:wr.cell? ⟨w.heap.size,6,none⟩=some (.slice A6 f.regions.length c6):=(bG.out.2.1.bk B0 (by decide) (by decide)).cell 6;go_wp2_with fail
  go_loopw [52] (fun i wr=>∃k:Nat,k<=f.regions.length/\i= .int .i64 k/\tN w W0 w.heap.size (w.heap.size+1) fc (T0++f.akP.flatMap ed++(f.regions.take k).flatMap cZ) wr) (fun i _=>f.regions.length - (intOf i).toNat)
  case atStart=>exact⟨0,nz _,rfl,by simpa using bG.out⟩
  case round=>
   obtain⟨k,hk,rfl,aW⟩:=hrel;clear l52 bG;have hkr:KP W0 wr:=aW.2.1;have jI:=hkr.size;have bG:=hd0 aW;by_cases hlt:k<f.regions.length
   ·have hkb:k<=10000000000:=nt (aoa hlt) n6;have hTr:Tabs wr:=hT.below aW.2.2 hG;have rZ:PN wr (w.heap.size+1) f.akJ:=hP0.kp hp0 aW.1 hkr;have hpr:=aW.1;have hsl:=hkr.sl akU.ok s6;clear aW;obtain⟨b,o,y,E0,e0,rfl,-,hy,q0,j0⟩:=hsl.region hlt;have hsn:=hd0 (bM cZ f.regions k y hy.out);have hle:=bH cZ f.regions k y hy.out;have hll:(T0++f.akP.flatMap ed++(f.regions.take k).flatMap cZ).length+(cZ y).length<=10000000000:=by simp only[la];omega
    obtain⟨y⟩:=y;dsimp only at q0 j0;have hyl:y.length<=10000000000:=by have h1:=F8 y;have h2:=kQ jQ (y.flatMap kz);have h3:cZ ⟨y⟩=ay jQ (y.flatMap kz):=rfl;rw[h3] at hle;omega
    have hba:Below wr.heap.size wr (wr.alloc (.cells #[.slice E0 y.length e0] 104)):=(ant _ _).alloc (af _) _;have hka:=KP.below hba;have hR:=hd0 (XH _ w.heap.size (w.heap.size+1) fc _ E0 e0 y (hTr.all hba) (hpr.below hba) (nt hwW (nt jI hba.size)) (hka.sl alM.ok j0) hyl (nt hll (by decide)));have Gj:=hd0 hka;have Hf:=hd0 hba;clear hy hle hll hsl hka hba hTr rZ hpr;go_wp2_with (go_at_call 43;refine hR.out.mono ?_;rintro e wz ⟨rfl,hpz,hkz,hbz⟩)
    go_roundw
    case rel=>exact⟨k+1,by omega,by simp,by rw[hsn.out,<-anH];exact hpz,bG.out.2.1.trans (Gj.out.trans hkz),bG.out.2.2.trans ((Hf.out.mono (by omega)).trans hbz)⟩
    case measure=>simp[intOf];omega
   obtain rfl:k=f.regions.length:=by omega
   rw[anA] at bG;clear hkr jI;have l8:wr.cell? ⟨w.heap.size,8,none⟩=some (.slice A8 f.cvt.length c8):=(bG.out.2.1.bk B0 (by decide) (by decide)).cell 8
   go_upto_if 63 with fail
   go_cut [3,63] from 64 to 68 (fun s3 _ wx=>s3= .pointer (some ⟨w.heap.size+1,0,none⟩)/\tN w W0 w.heap.size (w.heap.size+1) fc (T0++f.akP.flatMap ed++f.regions.flatMap cZ++jR f.cvt) wx)
   case first=>
    have aW:=bG.out;have hkr:KP W0 wr:=aW.2.1;have jI:=hkr.size;have hTr:Tabs wr:=hT.below aW.2.2 hG;have hpr:=aW.1;have hsl:=hkr.sl akL.ok s8;clear aW;by_cases h0:f.cvt=[]
    ·have hz:jR f.cvt=[]:=by rw[h0];rfl
     have hz0:¬(0<f.cvt.length):=by rw[h0];simp
     have Hz:=hd0 hz;clear hz h0;go_wp2_with fail
     go_meet
     rw[Hz.out,an0];exact⟨rfl,bG.out⟩
    have hz:jR f.cvt=ay mr (f.cvt.map ah):=by unfold jR;rw[if_neg (by simpa using h0)]
    have hz0:0<f.cvt.length:=aok.2 h0;have hw1:=kQ mr (f.cvt.map ah);have zU:(T0++f.akP.flatMap ed++f.regions.flatMap cZ).length+(ay mr (f.cvt.map ah)).length<=10000000000:=by rw[<-hz];simp only[la];omega
    have hyl:f.cvt.length<=10000000000:=by rw[anB] at hw1;omega
    have hnl:Hid (f.cvt.length=(f.cvt.map ah).length):=hd0 (anB ah).symm;have Om:Hid ((T0++f.akP.flatMap ed++f.regions.flatMap cZ).length+(ay mr (f.cvt.map ah)).length<=1000000000000/\(f.cvt.map ah).length<=1000000000000):=hd0 ⟨by omega,by omega⟩;have hI:=hd0 (wL wr A8 c8 f.cvt hTr hsl (by omega));have Hz:=hd0 hz;clear hz h0 zU hw1;go_wp2_with (first
     |(go_at_call 44;refine hI.out.mono ?_;rintro e w1 ⟨Aw,cw,rfl,how,hb1⟩;have z1:=hb1.size)
     |(go_at_call 41;refine(ou w1 w.heap.size (w.heap.size+1) fc _ mr Aw cw f.cvt.length (f.cvt.map ah) hnl.out (hpr.below hb1) (lN how) Om.out).mono ?_;rintro e wz ⟨rfl,hpz,hkz,hbz⟩))
    go_meet
    rw[Hz.out];exact⟨rfl,hpz,bG.out.2.1.trans ((KP.below hb1).trans hkz),bG.out.2.2.trans ((hb1.mono (by omega)).trans hbz)⟩
   case rest=>
    obtain⟨rfl,aW⟩:=hcut;clear bG l8;have bG:=hd0 aW;clear aW;have l72:wc.cell? ⟨w.heap.size,7,none⟩=some (.slice A7 f.funcs.length c7):=(bG.out.2.1.bk B0 (by decide) (by decide)).cell 7;go_wp2_with fail
    go_loopw [72] (fun i wr=>∃k:Nat,k<=f.funcs.length/\i= .int .i64 k/\tN w W0 w.heap.size (w.heap.size+1) fc (T0++f.akP.flatMap ed++f.regions.flatMap cZ++jR f.cvt++(f.funcs.take k).flatMap gJ) wr) (fun i _=>f.funcs.length - (intOf i).toNat)
    case atStart=>exact⟨0,nz _,rfl,by simpa using bG.out⟩
    case round=>
     obtain⟨k,hk,rfl,aW⟩:=hrel;clear l72 bG;have hkr:KP W0 wr:=aW.2.1;have jI:=hkr.size;have bG:=hd0 aW;by_cases hlt:k<f.funcs.length
     ·have hkb:k<=10000000000:=nt (aoa hlt) n7;have hTr:Tabs wr:=hT.below aW.2.2 hG;have rZ:PN wr (w.heap.size+1) f.akJ:=hP0.kp hp0 aW.1 hkr;have hpr:=aW.1;have hsl:=hkr.sl ak6.ok s7;clear aW;obtain⟨b,o,y,E0,e0,rfl,-,hy,q0,j0⟩:=hsl.code hlt;have hsn:=hd0 (bM gJ f.funcs k y hy.out);have hle:=bH gJ f.funcs k y hy.out;have hll:(T0++f.akP.flatMap ed++f.regions.flatMap cZ++jR f.cvt++(f.funcs.take k).flatMap gJ).length+(gJ y).length<=10000000000:=by simp only[la];omega
      have hw1:=kQ qo (y.map dC);have zU:(T0++f.akP.flatMap ed++f.regions.flatMap cZ++jR f.cvt++(f.funcs.take k).flatMap gJ).length+(ay qo (y.map dC)).length<=10000000000:=hll;have hyl:y.length<=10000000000:=by rw[anB] at hw1;omega
      have hnl:Hid (y.length=(y.map dC).length):=hd0 (anB dC).symm;have UT:(T0++f.akP.flatMap ed++f.regions.flatMap cZ++jR f.cvt++(f.funcs.take k).flatMap gJ).length+(ay qo (y.map dC)).length<=1000000000000/\(y.map dC).length<=1000000000000:=⟨by omega,by omega⟩
      have Om:=hd0 UT;have hI:=hd0 (xu wr E0 e0 y hTr j0 (by omega));clear hy hle hll hsl zU hw1 UT;go_wp2_with (first
       |(go_at_call 45;refine hI.out.mono ?_;rintro e w1 ⟨Aw,cw,rfl,how,hb1⟩;have z1:=hb1.size)
       |(go_at_call 41;refine(ou w1 w.heap.size (w.heap.size+1) fc _ qo Aw cw y.length (y.map dC) hnl.out (hpr.below hb1) (lN how) Om.out).mono ?_;rintro e wz ⟨rfl,hpz,hkz,hbz⟩))
      go_roundw
      case rel=>exact⟨k+1,by omega,by simp,by rw[hsn.out,<-anH];exact hpz,bG.out.2.1.trans ((KP.below hb1).trans hkz),bG.out.2.2.trans ((hb1.mono (by omega)).trans hbz)⟩
      case measure=>simp[intOf];omega
     obtain rfl:k=f.funcs.length:=by omega
     rw[anA] at bG;clear hkr jI;have l84:wr.cell? ⟨w.heap.size,1,none⟩=some (.slice A1 f.akJ.length c1):=(bG.out.2.1.bk B0 (by decide) (by decide)).cell 1;go_wp2_with fail
     go_loopw [84] (fun i wr=>∃k:Nat,k<=f.akJ.length/\i= .int .i64 k/\tN w W0 w.heap.size (w.heap.size+1) fc (T0++f.akP.flatMap ed++f.regions.flatMap cZ++jR f.cvt++f.funcs.flatMap gJ++(f.akJ.take k).flatMap (dQ f.akJ)) wr) (fun i _=>f.akJ.length - (intOf i).toNat)
     case atStart=>exact⟨0,nz _,rfl,by simpa using bG.out⟩
     case round=>
      obtain⟨k,hk,rfl,aW⟩:=hrel;clear l84 bG;have hkr:KP W0 wr:=aW.2.1;have jI:=hkr.size;have bG:=hd0 aW;by_cases hlt:k<f.akJ.length
      ·have hkb:k<=10000000000:=nt (aoa hlt) n1;have hTr:Tabs wr:=hT.below aW.2.2 hG;have rZ:PN wr (w.heap.size+1) f.akJ:=hP0.kp hp0 aW.1 hkr;have hpr:=aW.1;have hsl:=hkr.sl akQ.ok s1;clear aW;obtain⟨b,o,y,E3,e3,E4,e4,E5,e5,E6,e6,E7,e7,E8,e8,rfl,-,hy,q0,q1,q2,q3,q4,q5,q6,q7,q8,r1,j3,j4,j5,j6,j7,j8⟩:=hsl.akY hlt;have hsn:=hd0 (bM (dQ f.akJ) f.akJ k y hy.out);have hle:=bH (dQ f.akJ) f.akJ k y hy.out;have hll:(T0++f.akP.flatMap ed++f.regions.flatMap cZ++jR f.cvt++f.funcs.flatMap gJ++(f.akJ.take k).flatMap (dQ f.akJ)).length+((dQ f.akJ) y).length<=10000000000:=by simp only[la];omega
       obtain⟨hpn,hen⟩:=hS y (anC hy.out);have hhn:y.hint.length<=1000000000:=hH y (anC hy.out);have hba:Below wr.heap.size wr (wr.alloc (.cells #[.string ⟨y.name.toArray⟩,.int .i64 y.advance,.bool y.mark,.slice E3 y.points.length e3,.slice E4 y.ends.length e4,.slice E5 y.parts.length e5,.slice E6 y.anchors.length e6,.slice E7 y.deltas.length e7,.slice E8 y.hint.length e8] 59)):=(ant _ _).alloc (af _) _;have hka:=KP.below hba;have hR:=hd0 (U9 _ w.heap.size (w.heap.size+1) fc _ f.akJ E3 E4 E5 E6 E7 E8 e3 e4 e5 e6 e7 e8 y (hTr.all hba) hG (rZ.below hba) hgl (hpr.below hba) (nt hwW (nt jI hba.size)) r1 (hka.sl PtR.ok j3) (hka.sl akL.ok j4) (hka.sl ala.ok j5) (hka.sl akX.ok j6) (hka.sl ak2.ok j7) (hka.sl akZ.ok j8) hpn hen hhn hll);have Gj:=hd0 hka;have Hf:=hd0 hba;clear hy hle hll hsl hka hba hTr rZ hpr;go_wp2_with (go_at_call 46;refine hR.out.mono ?_;rintro e wz ⟨rfl,hpz,hkz,hbz⟩)
       go_roundw
       case rel=>exact⟨k+1,by omega,by simp,by rw[hsn.out,<-anH];exact hpz,bG.out.2.1.trans (Gj.out.trans hkz),bG.out.2.2.trans ((Hf.out.mono (by omega)).trans hbz)⟩
       case measure=>simp[intOf];omega
      obtain rfl:k=f.akJ.length:=by omega
      rw[anA] at bG;clear hkr jI;have l95:wr.cell? ⟨w.heap.size,2,none⟩=some (.slice A2 f.chars.length c2):=(bG.out.2.1.bk B0 (by decide) (by decide)).cell 2;go_wp2_with fail
      go_loopw [95] (fun i wr=>∃k:Nat,k<=f.chars.length/\i= .int .i64 k/\tN w W0 w.heap.size (w.heap.size+1) fc (T0++f.akP.flatMap ed++f.regions.flatMap cZ++jR f.cvt++f.funcs.flatMap gJ++f.akJ.flatMap (dQ f.akJ)++(f.chars.take k).flatMap (jZ f.akJ)) wr) (fun i _=>f.chars.length - (intOf i).toNat)
      case atStart=>exact⟨0,nz _,rfl,by simpa using bG.out⟩
      case round=>
       obtain⟨k,hk,rfl,aW⟩:=hrel;clear l95 bG;have hkr:KP W0 wr:=aW.2.1;have jI:=hkr.size;have bG:=hd0 aW;by_cases hlt:k<f.chars.length
       ·have hkb:k<=10000000000:=nt (aoa hlt) n2;have hTr:Tabs wr:=hT.below aW.2.2 hG;have rZ:PN wr (w.heap.size+1) f.akJ:=hP0.kp hp0 aW.1 hkr;have hpr:=aW.1;have hsl:=hkr.sl alm.ok s2;clear aW;obtain⟨b,o,y,rfl,-,hy,q0,q1,r0,r1⟩:=hsl.chr hlt;have hsn:=hd0 (bM (jZ f.akJ) f.chars k y hy.out);have hle:=bH (jZ f.akJ) f.chars k y hy.out;have hll:(T0++f.akP.flatMap ed++f.regions.flatMap cZ++jR f.cvt++f.funcs.flatMap gJ++f.akJ.flatMap (dQ f.akJ)++(f.chars.take k).flatMap (jZ f.akJ)).length+((jZ f.akJ) y).length<=10000000000:=by simp only[la];omega
        obtain⟨y0,y1⟩:=y;dsimp only at q0 q1 r0 r1;have zU:(T0++f.akP.flatMap ed++f.regions.flatMap cZ++jR f.cvt++f.funcs.flatMap gJ++f.akJ.flatMap (dQ f.akJ)++(f.chars.take k).flatMap (jZ f.akJ)).length+(ay uF [ah y0,cO f.akJ y1]).length<=10000000000:=hll;clear hy hle hll hsl;go_wp2_with fail
        obtain⟨W2,hW2⟩:∃W2,wr.alloc (.cells #[.int .i64 y0,.int .i64 y1] 93)=W2:=⟨_,rfl⟩
        rw[hW2];have hb0:Below wr.heap.size wr W2:=by rw[<-hW2];exact(ant _ _).alloc (af _) _
        have BV:Bk W2 wr.heap.size 93 #[.int .i64 y0,.int .i64 y1]:=by rw[<-hW2];exact Bk.new _ _ _
        have NZ:=hb0.size;clear hW2 q0 q1;have hT2:=hTr.all hb0;have hP2:=rZ.below hb0;have wU:=hpr.below hb0;have v0:W2.cell? ⟨wr.heap.size,0,none⟩=some (.int .i64 y0):=BV.cell 0;have v1:W2.cell? ⟨wr.heap.size,1,none⟩=some (.int .i64 y1):=BV.cell 1
        go_region_held3 (fun w'=>w'.cell? ⟨wr.heap.size,0,none⟩=some (.int .i64 y0)/\w'.cell? ⟨wr.heap.size,1,none⟩=some (.int .i64 y1))
         (first
          |exact⟨(hkz.bk (BV.below hc2) (by decide) (by decide)).cell 0,(hkz.bk (BV.below hc2) (by decide) (by decide)).cell 1⟩
          |exact⟨bZ _ (ae hc2 v0),bZ _ (ae hc2 v1)⟩
          |exact⟨ae hc2 v0,ae hc2 v1⟩
          |exact⟨ae hc1 v0,ae hc1 v1⟩
          |go_keep)
         (first
          |(go_at_call 42;refine(aX _ y0 hT2.drew r0).mono ?_;rintro e w1 ⟨rfl,hb1⟩;have hc1:=jT hb1;have z1:=hc1.size)
          |(go_at_call 47;refine(Ak _ (w.heap.size+1) f.akJ y1 (hT2.all hc1) r1 (hP2.below hc1) hgl).mono ?_;rintro e w2 ⟨rfl,hb2⟩;have hc2:=bt hc1 hb2;have z2:=hc2.size)
          |(go_at_call 41;refine(lF w2 w2.heap.size 2 rfl w.heap.size (w.heap.size+1) fc _ uF [ah y0,cO f.akJ y1] rfl (wU.below hc2) zU).mono ?_;rintro e wz ⟨rfl,hpz,hkz,hbz⟩))
        go_wp2;go_roundw
        case rel=>exact⟨k+1,by omega,by simp,by rw[hsn.out,<-anH];exact hpz,bG.out.2.1.trans ((KP.below (bt hb0 hc2)).trans hkz),bG.out.2.2.trans (((bt hb0 hc2).mono (by omega)).trans hbz)⟩
        case measure=>simp[intOf];omega
       obtain rfl:k=f.chars.length:=by omega
       rw[anA] at bG;clear hkr jI;have agm:wr.cell? ⟨w.heap.size,3,none⟩=some (.slice A3 f.akK.length c3):=(bG.out.2.1.bk B0 (by decide) (by decide)).cell 3;go_wp2_with fail
       go_loopw [113] (fun i wr=>∃k:Nat,k<=f.akK.length/\i= .int .i64 k/\tN w W0 w.heap.size (w.heap.size+1) fc (T0++f.akP.flatMap ed++f.regions.flatMap cZ++jR f.cvt++f.funcs.flatMap gJ++f.akJ.flatMap (dQ f.akJ)++f.chars.flatMap (jZ f.akJ)++(f.akK.take k).flatMap (dN f.akJ)) wr) (fun i _=>f.akK.length - (intOf i).toNat)
       case atStart=>exact⟨0,nz _,rfl,by simpa using bG.out⟩
       case round=>
        obtain⟨k,hk,rfl,aW⟩:=hrel;clear agm bG;have hkr:KP W0 wr:=aW.2.1;have jI:=hkr.size;have bG:=hd0 aW;by_cases hlt:k<f.akK.length
        ·have hkb:k<=10000000000:=nt (aoa hlt) n3;have hTr:Tabs wr:=hT.below aW.2.2 hG;have rZ:PN wr (w.heap.size+1) f.akJ:=hP0.kp hp0 aW.1 hkr;have hpr:=aW.1;have hsl:=hkr.sl akS.ok s3;clear aW;obtain⟨b,o,y,E2,e2,rfl,-,hy,q0,q1,q2,r0,j2⟩:=hsl.lookup hlt;have hsn:=hd0 (bM (dN f.akJ) f.akK k y hy.out);have hle:=bH (dN f.akJ) f.akK k y hy.out;have hll:(T0++f.akP.flatMap ed++f.regions.flatMap cZ++jR f.cvt++f.funcs.flatMap gJ++f.akJ.flatMap (dQ f.akJ)++f.chars.flatMap (jZ f.akJ)++(f.akK.take k).flatMap (dN f.akJ)).length+((dN f.akJ) y).length<=10000000000:=by simp only[la];omega
         have hrl:y.rules.length<=10000000000:=by have h1:=lT (nP f.akJ y.kind) (fun _=>jA _ _) y.rules;have h2:dN f.akJ y=ay gX (pick aG y.kind::if y.alr then [eU] else [])++y.rules.flatMap (nP f.akJ y.kind):=rfl;rw[h2,la] at hle;omega
         have hba:Below wr.heap.size wr (wr.alloc (.cells #[.int .i64 y.kind,.bool y.alr,.slice E2 y.rules.length e2] 72)):=(ant _ _).alloc (af _) _;have hka:=KP.below hba;have hR:=hd0 (WA _ w.heap.size (w.heap.size+1) fc _ f.akJ E2 e2 y (hTr.all hba) hG (rZ.below hba) hgl (hpr.below hba) (nt hwW (nt jI hba.size)) (hka.sl ak3.ok j2) hrl hll);have Gj:=hd0 hka;have Hf:=hd0 hba;clear hy hle hll hsl hka hba hTr rZ hpr;go_wp2_with (go_at_call 48;refine hR.out.mono ?_;rintro e wz ⟨rfl,hpz,hkz,hbz⟩)
         go_roundw
         case rel=>exact⟨k+1,by omega,by simp,by rw[hsn.out,<-anH];exact hpz,bG.out.2.1.trans (Gj.out.trans hkz),bG.out.2.2.trans ((Hf.out.mono (by omega)).trans hbz)⟩
         case measure=>simp[intOf];omega
        obtain rfl:k=f.akK.length:=by omega
        rw[anA] at bG;clear hkr jI;have ahM:wr.cell? ⟨w.heap.size,4,none⟩=some (.slice A4 f.features.length c4):=(bG.out.2.1.bk B0 (by decide) (by decide)).cell 4;go_wp2_with fail
        go_loopw [124] (fun i wr=>∃k:Nat,k<=f.features.length/\i= .int .i64 k/\tN w W0 w.heap.size (w.heap.size+1) fc (T0++f.akP.flatMap ed++f.regions.flatMap cZ++jR f.cvt++f.funcs.flatMap gJ++f.akJ.flatMap (dQ f.akJ)++f.chars.flatMap (jZ f.akJ)++f.akK.flatMap (dN f.akJ)++(f.features.take k).flatMap iT) wr) (fun i _=>f.features.length - (intOf i).toNat)
        case atStart=>exact⟨0,nz _,rfl,by simpa using bG.out⟩
        case round=>
         obtain⟨k,hk,rfl,aW⟩:=hrel;clear ahM bG;have hkr:KP W0 wr:=aW.2.1;have jI:=hkr.size;have bG:=hd0 aW;by_cases hlt:k<f.features.length
         ·have hkb:k<=10000000000:=nt (aoa hlt) n4;have hTr:Tabs wr:=hT.below aW.2.2 hG;have rZ:PN wr (w.heap.size+1) f.akJ:=hP0.kp hp0 aW.1 hkr;have hpr:=aW.1;have hsl:=hkr.sl akR.ok s4;clear aW;obtain⟨b,o,y,E1,e1,rfl,-,hy,q0,q1,j1⟩:=hsl.amq hlt;have hsn:=hd0 (bM iT f.features k y hy.out);have hle:=bH iT f.features k y hy.out;have hll:(T0++f.akP.flatMap ed++f.regions.flatMap cZ++jR f.cvt++f.funcs.flatMap gJ++f.akJ.flatMap (dQ f.akJ)++f.chars.flatMap (jZ f.akJ)++f.akK.flatMap (dN f.akJ)++(f.features.take k).flatMap iT).length+(iT y).length<=10000000000:=by simp only[la];omega
          obtain⟨y0,y1⟩:=y;dsimp only at q0 q1 j1;have hw1:=kQ jC (y0::y1.map ah);have zU:(T0++f.akP.flatMap ed++f.regions.flatMap cZ++jR f.cvt++f.funcs.flatMap gJ++f.akJ.flatMap (dQ f.akJ)++f.chars.flatMap (jZ f.akJ)++f.akK.flatMap (dN f.akJ)++(f.features.take k).flatMap iT).length+(ay jC (y0::y1.map ah)).length<=10000000000:=hll;have hyl:y1.length<=10000000000:=by simp only[aT,anB] at hw1;omega
          have hnl:Hid (1+y1.length=(y0::y1.map ah).length):=hd0 (by simp;omega);have Om:Hid ((T0++f.akP.flatMap ed++f.regions.flatMap cZ++jR f.cvt++f.funcs.flatMap gJ++f.akJ.flatMap (dQ f.akJ)++f.chars.flatMap (jZ f.akJ)++f.akK.flatMap (dN f.akJ)++(f.features.take k).flatMap iT).length+(ay jC (y0::y1.map ah)).length<=1000000000000/\(y0::y1.map ah).length<=1000000000000):=hd0 ⟨by omega,by omega⟩;clear hy hle hll hsl zU hw1;have hkj:=hkr;go_wp2_with fail
          obtain⟨W2,hW2⟩:∃W2,wr.alloc (.cells #[.string ⟨y0.toArray⟩,.slice E1 y1.length e1] 97)=W2:=⟨_,rfl⟩
          rw[hW2];have hb0:Below wr.heap.size wr W2:=by rw[<-hW2];exact(ant _ _).alloc (af _) _
          have BV:Bk W2 wr.heap.size 97 #[.string ⟨y0.toArray⟩,.slice E1 y1.length e1]:=by rw[<-hW2];exact Bk.new _ _ _
          have NZ:=hb0.size;clear hW2 q0 q1;have wU:=hpr.below hb0;have hT2:=hTr.all hb0;have hsB:=(KP.below hb0).sl akL.ok j1;have hbL:Below W2.heap.size W2 (W2.alloc (.cells #[.string ⟨y0.toArray⟩] 9)):=(ant _ _).alloc (af _) _;have hTA:=(hT2.all hbL).drew;have hTB:=hT2.drew;have hsA:Sl akL 1 (W2.alloc (.cells #[.string ⟨y0.toArray⟩] 9)).drew (FT (W2.alloc (.cells #[.string ⟨y0.toArray⟩] 9)).drew) E1 y1:=(KP.below (ant _ _).drew).sl akL.ok ((KP.below hbL).sl akL.ok hsB);have ahY:Sl akL 1 W2.drew (FT W2.drew) E1 y1:=(KP.below (ant _ _).drew).sl akL.ok hsB;have acE:y1.length<=100000000000:=by omega
          have ad3:1+y1.length<=1000000000000:=by omega
          have v0:W2.cell? ⟨wr.heap.size,0,none⟩=some (.string ⟨y0.toArray⟩):=BV.cell 0;have v1:W2.cell? ⟨wr.heap.size,1,none⟩=some (.slice E1 y1.length e1):=BV.cell 1;have hoL:(W2.alloc (.cells #[.string ⟨y0.toArray⟩] 9)).ownsRow W2.heap.size 9 1 (.slice (some ⟨W2.heap.size,0,none⟩) 1 1) 1 [.string ⟨y0.toArray⟩]:=QE W2 _ y0 (af _);have HbL:=hd0 hbL;clear hbL
          go_region_held3 (fun w'=>w'.cell? ⟨wr.heap.size,0,none⟩=some (.string ⟨y0.toArray⟩)/\w'.cell? ⟨wr.heap.size,1,none⟩=some (.slice E1 y1.length e1))
           (first
            |exact⟨(hkz.bk (BV.below hcz) (by decide) (by decide)).cell 0,(hkz.bk (BV.below hcz) (by decide) (by decide)).cell 1⟩
            |exact⟨ae hcz v0,ae hcz v1⟩
            |exact⟨bZ _ (ae hcB v0),bZ _ (ae hcB v1)⟩
            |exact⟨ae hcA v0,ae hcA v1⟩
            |exact⟨ae hcB v0,ae hcB v1⟩
            |go_keep)
           (first
            |(go_at_call 44;refine(wL (W2.alloc (.cells #[.string ⟨y0.toArray⟩] 9)).drew E1 e1 y1 hTA hsA acE).mono ?_;rintro e w1 ⟨Aw,cw,rfl,how,hb1⟩;have hc1:=jT hb1;have hcA:=bt HbL.out hc1;have z1:=hcA.size;have hoA:=own_below hoL hc1;have hrA:=gG how (anB ah))
            |(go_at_call 44;refine(wL W2.drew E1 e1 y1 hTB ahY acE).mono ?_;rintro e w1 ⟨Aw,cw,rfl,how,hb1⟩;have hcB:=jT hb1;have z1:=hcB.size;have WX:=QE w1 W2.heap.size y0 z1;have hrB:=ZJ (o:=(.cells #[.string ⟨y0.toArray⟩] 9)) (gG how (anB ah)))
            |(refine Mc (by rfl) (.tmp 131) (.tmp 134) (by rfl) w1 W2.heap.size 1 1 _ _ w1.heap.size Aw y1.length cw (y1.map ah) (by go_simp) (by go_simp) hoA hrA ad3 z1 ?_;intro A4 c4 w4 fJ hg4;have hcz:=hcA.grown hg4 z1 (fun g e=>(hoA.lt g e).1))
            |(refine Mc (by rfl) (.tmp 131) (.tmp 134) (by rfl) _ W2.heap.size 1 1 _ _ _ Aw y1.length cw (y1.map ah) (by go_simp) (by go_simp) WX hrB ad3 (Pz z1) ?_;intro A4 c4 w4 fJ hg4;have hcz:=(hcB.alloc z1 _).grown hg4 (Pz z1) (fun g e=>(WX.lt g e).1))
            |(go_at_call 41;refine(ou w4 w.heap.size (w.heap.size+1) fc _ jC A4 c4 (1+y1.length) (y0::y1.map ah) hnl.out (wU.below hcz) (lN (ws:=y0::y1.map ah) fJ) Om.out).mono ?_;rintro e wz ⟨rfl,hpz,hkz,hbz⟩))
          all_goals
           go_wp2;go_roundw
           case rel=>exact⟨k+1,by omega,by simp,by rw[hsn.out,<-anH];exact hpz,bG.out.2.1.trans ((KP.below (bt hb0 hcz)).trans hkz),bG.out.2.2.trans (((bt hb0 hcz).mono (by omega)).trans hbz)⟩
           case measure=>simp[intOf];omega
         obtain rfl:k=f.features.length:=by omega
         rw[anA] at bG;clear hkr jI;obtain⟨TT,hTT⟩:∃TT,T0++f.akP.flatMap ed++f.regions.flatMap cZ++jR f.cvt++f.funcs.flatMap gJ++f.akJ.flatMap (dQ f.akJ)++f.chars.flatMap (jZ f.akJ)++f.akK.flatMap (dN f.akJ)++f.features.flatMap iT=TT:=⟨_,rfl⟩
         have hpr:=bG.out.1;have hbl:=bG.out.2.2;rw[hTT] at hpr hne HF;clear hTT bG;go_wp2_with (go_at_call 49;refine(Ti wr w.heap.size (w.heap.size+1) fc _ hpr hne.out).mono ?_;rintro e wz ⟨rfl,hbz⟩)
         go_ret
         rw[HF.out];exact⟨rfl,hbl.trans hbz⟩
end Go.Proofs.YtkijckccfookeaaGreatDoor
