/- Lemmas. -/
import Derived.Test.YtkijckccfookeaaDoorW08
set_option linter.unusedVariables false
set_option linter.unusedSimpArgs false
set_option maxRecDepth 100000
set_option maxHeartbeats 32000000
namespace Go.Proofs.YtkijckccfookeaaDoor
section
open Go.RowKit Go.Sort
theorem aaj.len {w:World}{ws:List B}{n:Nat}{A:Option Addr}{c:Nat}{wr:World}(h:aaj w ws n A c wr):n=ws.length:=h.1
theorem gZ (w:World)(Bd g:Nat)(fc:Nat->Value)(txt first:B)(A:Option Addr)(c n:Nat)(ws:List B)(hn:n=ws.length)(h:Pr w Bd g fc txt)(hA:Sl aaw 1 w (FT w) A ws)(hlen:txt.length+(ai first ws).length<=1000000000000/\ws.length<=1000000000000):
  Calls Tryd.prog 20 #[.pointer (some ⟨g,0,none⟩),.string ⟨first.toArray⟩,.slice A n c] w fun e w'=>e= .returned (.tuple #[])/\Pr w' Bd g fc (txt++ai first ws)/\KP w w'/\Below Bd w w':=by
 subst hn;exact qK w Bd g fc txt first A c ws h hA hlen.1 hlen.2
theorem O1
  (w:World) (Bd g:Nat) (fc:Nat->Value) (txt:B) (A0 B1 B2 B3 B4:Option Addr) (c0 d1 d2 d3 d4:Nat) (back in' ahead:List (List Int)) (out:List Int) (calls:List Call) (x:Int) (sb si sa so:List B)
  (hp:Pr w Bd g fc txt) (hBd:Bd<=w.heap.size)
  (S0:Hid (∀w',Below w.heap.size w w'->Calls Tryd.prog 71 #[.pointer (some ⟨g,0,none⟩),.slice A0 back.length c0] w' (bY w' sb)))
  (S1:Hid (∀w',Below w.heap.size w w'->Calls Tryd.prog 71 #[.pointer (some ⟨g,0,none⟩),.slice B1 in'.length d1] w' (bY w' si)))
  (S2:Hid (∀w',Below w.heap.size w w'->Calls Tryd.prog 71 #[.pointer (some ⟨g,0,none⟩),.slice B2 ahead.length d2] w' (bY w' sa)))
  (hW:sb.length+si.length+sa.length+so.length+3<=10000000000)
  (S3:Hid (∀w',Below w.heap.size w w'->Calls Tryd.prog 72 #[.pointer (some ⟨g,0,none⟩),.slice B3 out.length d3] w' (bY w' so)))
  (W:List B) (HE:Hid (W=sb++[[47]]++si++[[47]]++sa++[[62]]++so)) (HL:Hid (txt.length+(ai bn (sb++[[47]]++si++[[47]]++sa++[[62]]++so)).length<=1000000000000/\(sb++[[47]]++si++[[47]]++sa++[[62]]++so).length<=1000000000000)):
  Calls Tryd.prog 49 #[.pointer (some ⟨g,0,none⟩),.int .i64 1,.agg #[.slice A0 back.length c0,.slice B1 in'.length d1,.slice B2 ahead.length d2,.slice B3 out.length d3,.slice B4 calls.length d4,.int .i64 x]] w
   fun e w'=>e= .returned (.tuple #[])/\Pr w' Bd g fc (txt++ai bn W)/\KP w w'/\Below Bd w w':=by
 go_enter Tryd.func49,Tryd.ntmps49
 go_wp2_with fail
 obtain⟨W0,hW0⟩:∃W0,w.alloc (.cells #[.slice A0 back.length c0,.slice B1 in'.length d1,.slice B2 ahead.length d2,.slice B3 out.length d3,.slice B4 calls.length d4,.int .i64 x] 78)=W0:=⟨_,rfl⟩
 rw[hW0];have hbW:Below w.heap.size w W0:=by rw[<-hW0];exact(aa0 _ _).alloc (ag _) _
 have k1:W0.cell? ⟨w.heap.size,1,none⟩=some (.slice B1 in'.length d1):=by rw[<-hW0];simp[go_sem]
 have k2:W0.cell? ⟨w.heap.size,2,none⟩=some (.slice B2 ahead.length d2):=by rw[<-hW0];simp[go_sem]
 have k3:W0.cell? ⟨w.heap.size,3,none⟩=some (.slice B3 out.length d3):=by rw[<-hW0];simp[go_sem]
 have k4:W0.cell? ⟨w.heap.size,4,none⟩=some (.slice B4 calls.length d4):=by rw[<-hW0];simp[go_sem]
 have k5:W0.cell? ⟨w.heap.size,5,none⟩=some (.int .i64 x):=by rw[<-hW0];simp[go_sem]
 have z0:=hbW.size;clear hW0;refine(S0.out _ hbW).mono ?_;rintro e w1 ⟨A1,c1,rfl,o1,b1⟩;have N1:aaj W0 sb sb.length A1 c1 w1:=⟨rfl,o1,b1⟩
 have z1:=b1.size;have wC:=ae b1 k1;have bZ:True:=trivial;have fB:True:=trivial;have fQ:True:=trivial;have jg:True:=trivial;have jf:True:=trivial;have jh:True:=trivial;have jd:True:=trivial;have lX:True:=trivial;have jq:True:=trivial;go_wp2_with (first
  |(at_builtin;have _t:=bZ;refine aJ rfl (.tmp 13) (.tmp 14) rfl w1 W0.heap.size _ c1 A1 _ [47] rfl rfl o1 (by omega) (by omega) ?_;intro A2 c2 w2 p2 g2;clear _t bZ;have N2:=N1.next (us:=[[47]]) (aa0 _ _) p2 g2;have o2:=N2.2.1;have b2:=N2.2.2;have z2:=b2.size;have vV:=ae b2 k1)
  |(go_at_call 71;have _t:=fB;refine(S1.out _ (bt hbW b2)).mono ?_;rintro e w3 ⟨A3,c3,rfl,o3,b3⟩;clear _t fB;have z3:=b3.size)
  |(at_builtin;have _t:=fQ;refine bU rfl (.tmp 16) (.tmp 20) rfl w3 W0.heap.size _ c2 A2 _ w3.heap.size A3 _ c3 si rfl rfl (own_below o2 b3) (cZ o3 rfl) (by omega) (by omega) ?_;intro A4 c4 w4 p4 g4;clear _t fQ;have N4:=N2.next (us:=si) b3 p4 g4;have o4:=N4.2.1;have b4:=N4.2.2;have z4:=b4.size)
  |(at_builtin;have _t:=jg;refine aJ rfl (.tmp 22) (.tmp 23) rfl w4 W0.heap.size _ c4 A4 _ [47] rfl rfl o4 (by omega) (by omega) ?_;intro A5 c5 w5 p5 g5;clear _t jg;have N5:=N4.next (us:=[[47]]) (aa0 _ _) p5 g5;have o5:=N5.2.1;have b5:=N5.2.2;have z5:=b5.size;have uX:=ae b5 k2)
  |(go_at_call 71;have _t:=jf;refine(S2.out _ (bt hbW b5)).mono ?_;rintro e w6 ⟨A6,c6,rfl,o6,b6⟩;clear _t jf;have z6:=b6.size)
  |(at_builtin;have _t:=jh;refine bU rfl (.tmp 25) (.tmp 29) rfl w6 W0.heap.size _ c5 A5 _ w6.heap.size A6 _ c6 sa rfl rfl (own_below o5 b6) (cZ o6 rfl) (by omega) (by omega) ?_;intro A7 c7 w7 p7 g7;clear _t jh;have N7:=N5.next (us:=sa) b6 p7 g7;have o7:=N7.2.1;have b7:=N7.2.2;have z7:=b7.size)
  |(at_builtin;have _t:=jd;refine aJ rfl (.tmp 31) (.tmp 32) rfl w7 W0.heap.size _ c7 A7 _ [62] rfl rfl o7 (by omega) (by omega) ?_;intro A8 c8 w8 p8 g8;clear _t jd;have N8:=N7.next (us:=[[62]]) (aa0 _ _) p8 g8;have o8:=N8.2.1;have b8:=N8.2.2;have z8:=b8.size;have vw:=ae b8 k3;have vT:=ae b8 k4;have vZ:=ae b8 k5)
  |(go_at_call 72;have _t:=lX;refine(S3.out _ (bt hbW b8)).mono ?_;rintro e w9 ⟨A9,c9,rfl,o9,b9⟩;clear _t lX;have z9:=b9.size)
  |(at_builtin;have _t:=jq;refine bU rfl (.tmp 40) (.tmp 44) rfl w9 W0.heap.size _ c8 A8 _ w9.heap.size A9 _ c9 so rfl rfl (own_below o8 b9) (cZ o9 rfl) (by omega) (by omega) ?_;intro A10 c10 w10 p10 g10;clear _t jq;have iq:=N8.next (us:=so) b9 p10 g10;have qi:=iq.2.1;have b10:=iq.2.2;have z10:=b10.size)
  |(go_at_call 20;((with_reducible refine(gZ _ Bd g fc txt bn A10 c10 _ _ iq.len (hp.below (bt hbW b10)) (fM qi) HL.out).mono ?_);rintro e wz ⟨rfl,hpz,hkz,hbz⟩)))
 go_end0
 refine⟨rfl,?_,(KP.below (bt hbW b10)).trans hkz,((bt hbW b10).mono hBd).trans hbz⟩;rw[HE.out];simpa [ai] using hpz
theorem L9
  (w:World) (Bd g:Nat) (fc:Nat->Value) (txt:B) (A0 B1 B2 B3 B4:Option Addr) (c0 d1 d2 d3 d4:Nat) (back in' ahead:List (List Int)) (out:List Int) (calls:List Call) (x:Int) (sb si sa so:List B)
  (hp:Pr w Bd g fc txt) (hBd:Bd<=w.heap.size)
  (S0:Hid (∀w',Below w.heap.size w w'->Calls Tryd.prog 71 #[.pointer (some ⟨g,0,none⟩),.slice A0 back.length c0] w' (bY w' sb)))
  (S1:Hid (∀w',Below w.heap.size w w'->Calls Tryd.prog 71 #[.pointer (some ⟨g,0,none⟩),.slice B1 in'.length d1] w' (bY w' si)))
  (S2:Hid (∀w',Below w.heap.size w w'->Calls Tryd.prog 71 #[.pointer (some ⟨g,0,none⟩),.slice B2 ahead.length d2] w' (bY w' sa)))
  (hW:sb.length+si.length+sa.length+so.length+3<=10000000000)
  (S3:Hid (∀w',Below w.heap.size w w'->Calls Tryd.prog 72 #[.pointer (some ⟨g,0,none⟩),.slice B3 out.length d3] w' (bY w' so)))
  (W:List B) (HE:Hid (W=sb++[[47]]++si++[[47]]++sa++[[62]]++so)) (HL:Hid (txt.length+(ai bn (sb++[[47]]++si++[[47]]++sa++[[62]]++so)).length<=1000000000000/\(sb++[[47]]++si++[[47]]++sa++[[62]]++so).length<=1000000000000)):
  Calls Tryd.prog 49 #[.pointer (some ⟨g,0,none⟩),.int .i64 2,.agg #[.slice A0 back.length c0,.slice B1 in'.length d1,.slice B2 ahead.length d2,.slice B3 out.length d3,.slice B4 calls.length d4,.int .i64 x]] w
   fun e w'=>e= .returned (.tuple #[])/\Pr w' Bd g fc (txt++ai bn W)/\KP w w'/\Below Bd w w':=by
 go_enter Tryd.func49,Tryd.ntmps49
 go_wp2_with fail
 obtain⟨W0,hW0⟩:∃W0,w.alloc (.cells #[.slice A0 back.length c0,.slice B1 in'.length d1,.slice B2 ahead.length d2,.slice B3 out.length d3,.slice B4 calls.length d4,.int .i64 x] 78)=W0:=⟨_,rfl⟩
 rw[hW0];have hbW:Below w.heap.size w W0:=by rw[<-hW0];exact(aa0 _ _).alloc (ag _) _
 have k1:W0.cell? ⟨w.heap.size,1,none⟩=some (.slice B1 in'.length d1):=by rw[<-hW0];simp[go_sem]
 have k2:W0.cell? ⟨w.heap.size,2,none⟩=some (.slice B2 ahead.length d2):=by rw[<-hW0];simp[go_sem]
 have k3:W0.cell? ⟨w.heap.size,3,none⟩=some (.slice B3 out.length d3):=by rw[<-hW0];simp[go_sem]
 have k4:W0.cell? ⟨w.heap.size,4,none⟩=some (.slice B4 calls.length d4):=by rw[<-hW0];simp[go_sem]
 have k5:W0.cell? ⟨w.heap.size,5,none⟩=some (.int .i64 x):=by rw[<-hW0];simp[go_sem]
 have z0:=hbW.size;clear hW0;refine(S0.out _ hbW).mono ?_;rintro e w1 ⟨A1,c1,rfl,o1,b1⟩;have N1:aaj W0 sb sb.length A1 c1 w1:=⟨rfl,o1,b1⟩
 have z1:=b1.size;have wC:=ae b1 k1;have bZ:True:=trivial;have fB:True:=trivial;have fQ:True:=trivial;have jg:True:=trivial;have jf:True:=trivial;have jh:True:=trivial;have jd:True:=trivial;have lX:True:=trivial;have jq:True:=trivial;go_wp2_with (first
  |(at_builtin;have _t:=bZ;refine aJ rfl (.tmp 13) (.tmp 14) rfl w1 W0.heap.size _ c1 A1 _ [47] rfl rfl o1 (by omega) (by omega) ?_;intro A2 c2 w2 p2 g2;clear _t bZ;have N2:=N1.next (us:=[[47]]) (aa0 _ _) p2 g2;have o2:=N2.2.1;have b2:=N2.2.2;have z2:=b2.size;have vV:=ae b2 k1)
  |(go_at_call 71;have _t:=fB;refine(S1.out _ (bt hbW b2)).mono ?_;rintro e w3 ⟨A3,c3,rfl,o3,b3⟩;clear _t fB;have z3:=b3.size)
  |(at_builtin;have _t:=fQ;refine bU rfl (.tmp 16) (.tmp 20) rfl w3 W0.heap.size _ c2 A2 _ w3.heap.size A3 _ c3 si rfl rfl (own_below o2 b3) (cZ o3 rfl) (by omega) (by omega) ?_;intro A4 c4 w4 p4 g4;clear _t fQ;have N4:=N2.next (us:=si) b3 p4 g4;have o4:=N4.2.1;have b4:=N4.2.2;have z4:=b4.size)
  |(at_builtin;have _t:=jg;refine aJ rfl (.tmp 22) (.tmp 23) rfl w4 W0.heap.size _ c4 A4 _ [47] rfl rfl o4 (by omega) (by omega) ?_;intro A5 c5 w5 p5 g5;clear _t jg;have N5:=N4.next (us:=[[47]]) (aa0 _ _) p5 g5;have o5:=N5.2.1;have b5:=N5.2.2;have z5:=b5.size;have uX:=ae b5 k2)
  |(go_at_call 71;have _t:=jf;refine(S2.out _ (bt hbW b5)).mono ?_;rintro e w6 ⟨A6,c6,rfl,o6,b6⟩;clear _t jf;have z6:=b6.size)
  |(at_builtin;have _t:=jh;refine bU rfl (.tmp 25) (.tmp 29) rfl w6 W0.heap.size _ c5 A5 _ w6.heap.size A6 _ c6 sa rfl rfl (own_below o5 b6) (cZ o6 rfl) (by omega) (by omega) ?_;intro A7 c7 w7 p7 g7;clear _t jh;have N7:=N5.next (us:=sa) b6 p7 g7;have o7:=N7.2.1;have b7:=N7.2.2;have z7:=b7.size)
  |(at_builtin;have _t:=jd;refine aJ rfl (.tmp 31) (.tmp 32) rfl w7 W0.heap.size _ c7 A7 _ [62] rfl rfl o7 (by omega) (by omega) ?_;intro A8 c8 w8 p8 g8;clear _t jd;have N8:=N7.next (us:=[[62]]) (aa0 _ _) p8 g8;have o8:=N8.2.1;have b8:=N8.2.2;have z8:=b8.size;have vw:=ae b8 k3;have vT:=ae b8 k4;have vZ:=ae b8 k5)
  |(go_at_call 72;have _t:=lX;refine(S3.out _ (bt hbW b8)).mono ?_;rintro e w9 ⟨A9,c9,rfl,o9,b9⟩;clear _t lX;have z9:=b9.size)
  |(at_builtin;have _t:=jq;refine bU rfl (.tmp 40) (.tmp 44) rfl w9 W0.heap.size _ c8 A8 _ w9.heap.size A9 _ c9 so rfl rfl (own_below o8 b9) (cZ o9 rfl) (by omega) (by omega) ?_;intro A10 c10 w10 p10 g10;clear _t jq;have iq:=N8.next (us:=so) b9 p10 g10;have qi:=iq.2.1;have b10:=iq.2.2;have z10:=b10.size)
  |(go_at_call 20;((with_reducible refine(gZ _ Bd g fc txt bn A10 c10 _ _ iq.len (hp.below (bt hbW b10)) (fM qi) HL.out).mono ?_);rintro e wz ⟨rfl,hpz,hkz,hbz⟩)))
 go_end0
 refine⟨rfl,?_,(KP.below (bt hbW b10)).trans hkz,((bt hbW b10).mono hBd).trans hbz⟩;rw[HE.out];simpa [ai] using hpz
theorem Oe
  (w:World) (Bd g:Nat) (fc:Nat->Value) (txt:B) (A0 B1 B2 B3 B4:Option Addr) (c0 d1 d2 d3 d4:Nat) (back in' ahead:List (List Int)) (out:List Int) (calls:List Call) (x:Int) (sb si sa so:List B)
  (hp:Pr w Bd g fc txt) (hBd:Bd<=w.heap.size)
  (S0:Hid (∀w',Below w.heap.size w w'->Calls Tryd.prog 71 #[.pointer (some ⟨g,0,none⟩),.slice A0 back.length c0] w' (bY w' sb)))
  (S1:Hid (∀w',Below w.heap.size w w'->Calls Tryd.prog 71 #[.pointer (some ⟨g,0,none⟩),.slice B1 in'.length d1] w' (bY w' si)))
  (S2:Hid (∀w',Below w.heap.size w w'->Calls Tryd.prog 71 #[.pointer (some ⟨g,0,none⟩),.slice B2 ahead.length d2] w' (bY w' sa)))
  (hW:sb.length+si.length+sa.length+so.length+3<=10000000000)
  (S3:Hid (∀w',Below w.heap.size w w'->Calls Tryd.prog 72 #[.pointer (some ⟨g,0,none⟩),.slice B3 out.length d3] w' (bY w' so)))
  (W:List B) (HE:Hid (W=sb++[[47]]++si++[[47]]++sa++[[62]]++so)) (HL:Hid (txt.length+(ai bn (sb++[[47]]++si++[[47]]++sa++[[62]]++so)).length<=1000000000000/\(sb++[[47]]++si++[[47]]++sa++[[62]]++so).length<=1000000000000)):
  Calls Tryd.prog 49 #[.pointer (some ⟨g,0,none⟩),.int .i64 3,.agg #[.slice A0 back.length c0,.slice B1 in'.length d1,.slice B2 ahead.length d2,.slice B3 out.length d3,.slice B4 calls.length d4,.int .i64 x]] w
   fun e w'=>e= .returned (.tuple #[])/\Pr w' Bd g fc (txt++ai bn W)/\KP w w'/\Below Bd w w':=by
 go_enter Tryd.func49,Tryd.ntmps49
 go_wp2_with fail
 obtain⟨W0,hW0⟩:∃W0,w.alloc (.cells #[.slice A0 back.length c0,.slice B1 in'.length d1,.slice B2 ahead.length d2,.slice B3 out.length d3,.slice B4 calls.length d4,.int .i64 x] 78)=W0:=⟨_,rfl⟩
 rw[hW0];have hbW:Below w.heap.size w W0:=by rw[<-hW0];exact(aa0 _ _).alloc (ag _) _
 have k1:W0.cell? ⟨w.heap.size,1,none⟩=some (.slice B1 in'.length d1):=by rw[<-hW0];simp[go_sem]
 have k2:W0.cell? ⟨w.heap.size,2,none⟩=some (.slice B2 ahead.length d2):=by rw[<-hW0];simp[go_sem]
 have k3:W0.cell? ⟨w.heap.size,3,none⟩=some (.slice B3 out.length d3):=by rw[<-hW0];simp[go_sem]
 have k4:W0.cell? ⟨w.heap.size,4,none⟩=some (.slice B4 calls.length d4):=by rw[<-hW0];simp[go_sem]
 have k5:W0.cell? ⟨w.heap.size,5,none⟩=some (.int .i64 x):=by rw[<-hW0];simp[go_sem]
 have z0:=hbW.size;clear hW0;refine(S0.out _ hbW).mono ?_;rintro e w1 ⟨A1,c1,rfl,o1,b1⟩;have N1:aaj W0 sb sb.length A1 c1 w1:=⟨rfl,o1,b1⟩
 have z1:=b1.size;have wC:=ae b1 k1;have bZ:True:=trivial;have fB:True:=trivial;have fQ:True:=trivial;have jg:True:=trivial;have jf:True:=trivial;have jh:True:=trivial;have jd:True:=trivial;have lX:True:=trivial;have jq:True:=trivial;go_wp2_with (first
  |(at_builtin;have _t:=bZ;refine aJ rfl (.tmp 13) (.tmp 14) rfl w1 W0.heap.size _ c1 A1 _ [47] rfl rfl o1 (by omega) (by omega) ?_;intro A2 c2 w2 p2 g2;clear _t bZ;have N2:=N1.next (us:=[[47]]) (aa0 _ _) p2 g2;have o2:=N2.2.1;have b2:=N2.2.2;have z2:=b2.size;have vV:=ae b2 k1)
  |(go_at_call 71;have _t:=fB;refine(S1.out _ (bt hbW b2)).mono ?_;rintro e w3 ⟨A3,c3,rfl,o3,b3⟩;clear _t fB;have z3:=b3.size)
  |(at_builtin;have _t:=fQ;refine bU rfl (.tmp 16) (.tmp 20) rfl w3 W0.heap.size _ c2 A2 _ w3.heap.size A3 _ c3 si rfl rfl (own_below o2 b3) (cZ o3 rfl) (by omega) (by omega) ?_;intro A4 c4 w4 p4 g4;clear _t fQ;have N4:=N2.next (us:=si) b3 p4 g4;have o4:=N4.2.1;have b4:=N4.2.2;have z4:=b4.size)
  |(at_builtin;have _t:=jg;refine aJ rfl (.tmp 22) (.tmp 23) rfl w4 W0.heap.size _ c4 A4 _ [47] rfl rfl o4 (by omega) (by omega) ?_;intro A5 c5 w5 p5 g5;clear _t jg;have N5:=N4.next (us:=[[47]]) (aa0 _ _) p5 g5;have o5:=N5.2.1;have b5:=N5.2.2;have z5:=b5.size;have uX:=ae b5 k2)
  |(go_at_call 71;have _t:=jf;refine(S2.out _ (bt hbW b5)).mono ?_;rintro e w6 ⟨A6,c6,rfl,o6,b6⟩;clear _t jf;have z6:=b6.size)
  |(at_builtin;have _t:=jh;refine bU rfl (.tmp 25) (.tmp 29) rfl w6 W0.heap.size _ c5 A5 _ w6.heap.size A6 _ c6 sa rfl rfl (own_below o5 b6) (cZ o6 rfl) (by omega) (by omega) ?_;intro A7 c7 w7 p7 g7;clear _t jh;have N7:=N5.next (us:=sa) b6 p7 g7;have o7:=N7.2.1;have b7:=N7.2.2;have z7:=b7.size)
  |(at_builtin;have _t:=jd;refine aJ rfl (.tmp 31) (.tmp 32) rfl w7 W0.heap.size _ c7 A7 _ [62] rfl rfl o7 (by omega) (by omega) ?_;intro A8 c8 w8 p8 g8;clear _t jd;have N8:=N7.next (us:=[[62]]) (aa0 _ _) p8 g8;have o8:=N8.2.1;have b8:=N8.2.2;have z8:=b8.size;have vw:=ae b8 k3;have vT:=ae b8 k4;have vZ:=ae b8 k5)
  |(go_at_call 72;have _t:=lX;refine(S3.out _ (bt hbW b8)).mono ?_;rintro e w9 ⟨A9,c9,rfl,o9,b9⟩;clear _t lX;have z9:=b9.size)
  |(at_builtin;have _t:=jq;refine bU rfl (.tmp 40) (.tmp 44) rfl w9 W0.heap.size _ c8 A8 _ w9.heap.size A9 _ c9 so rfl rfl (own_below o8 b9) (cZ o9 rfl) (by omega) (by omega) ?_;intro A10 c10 w10 p10 g10;clear _t jq;have iq:=N8.next (us:=so) b9 p10 g10;have qi:=iq.2.1;have b10:=iq.2.2;have z10:=b10.size)
  |(go_at_call 20;((with_reducible refine(gZ _ Bd g fc txt bn A10 c10 _ _ iq.len (hp.below (bt hbW b10)) (fM qi) HL.out).mono ?_);rintro e wz ⟨rfl,hpz,hkz,hbz⟩)))
 go_end0
 refine⟨rfl,?_,(KP.below (bt hbW b10)).trans hkz,((bt hbW b10).mono hBd).trans hbz⟩;rw[HE.out];simpa [ai] using hpz
theorem Qm
  (w:World) (Bd g:Nat) (fc:Nat->Value) (txt:B) (A0 B1 B2 B3 B4:Option Addr) (c0 d1 d2 d3 d4:Nat) (back in' ahead:List (List Int)) (out:List Int) (calls:List Call) (x:Int) (sb si sa so:List B)
  (hp:Pr w Bd g fc txt) (hBd:Bd<=w.heap.size)
  (S0:Hid (∀w',Below w.heap.size w w'->Calls Tryd.prog 71 #[.pointer (some ⟨g,0,none⟩),.slice A0 back.length c0] w' (bY w' sb)))
  (S1:Hid (∀w',Below w.heap.size w w'->Calls Tryd.prog 71 #[.pointer (some ⟨g,0,none⟩),.slice B1 in'.length d1] w' (bY w' si)))
  (S2:Hid (∀w',Below w.heap.size w w'->Calls Tryd.prog 71 #[.pointer (some ⟨g,0,none⟩),.slice B2 ahead.length d2] w' (bY w' sa)))
  (hW:sb.length+si.length+sa.length+so.length+3<=10000000000)
  (S3:Hid (∀w',Below w.heap.size w w'->Calls Tryd.prog 72 #[.pointer (some ⟨g,0,none⟩),.slice B3 out.length d3] w' (bY w' so)))
  (W:List B) (HE:Hid (W=sb++[[47]]++si++[[47]]++sa++[[62]]++so)) (HL:Hid (txt.length+(ai bn (sb++[[47]]++si++[[47]]++sa++[[62]]++so)).length<=1000000000000/\(sb++[[47]]++si++[[47]]++sa++[[62]]++so).length<=1000000000000)):
  Calls Tryd.prog 49 #[.pointer (some ⟨g,0,none⟩),.int .i64 5,.agg #[.slice A0 back.length c0,.slice B1 in'.length d1,.slice B2 ahead.length d2,.slice B3 out.length d3,.slice B4 calls.length d4,.int .i64 x]] w
   fun e w'=>e= .returned (.tuple #[])/\Pr w' Bd g fc (txt++ai bn W)/\KP w w'/\Below Bd w w':=by
 go_enter Tryd.func49,Tryd.ntmps49
 go_wp2_with fail
 obtain⟨W0,hW0⟩:∃W0,w.alloc (.cells #[.slice A0 back.length c0,.slice B1 in'.length d1,.slice B2 ahead.length d2,.slice B3 out.length d3,.slice B4 calls.length d4,.int .i64 x] 78)=W0:=⟨_,rfl⟩
 rw[hW0];have hbW:Below w.heap.size w W0:=by rw[<-hW0];exact(aa0 _ _).alloc (ag _) _
 have k1:W0.cell? ⟨w.heap.size,1,none⟩=some (.slice B1 in'.length d1):=by rw[<-hW0];simp[go_sem]
 have k2:W0.cell? ⟨w.heap.size,2,none⟩=some (.slice B2 ahead.length d2):=by rw[<-hW0];simp[go_sem]
 have k3:W0.cell? ⟨w.heap.size,3,none⟩=some (.slice B3 out.length d3):=by rw[<-hW0];simp[go_sem]
 have k4:W0.cell? ⟨w.heap.size,4,none⟩=some (.slice B4 calls.length d4):=by rw[<-hW0];simp[go_sem]
 have k5:W0.cell? ⟨w.heap.size,5,none⟩=some (.int .i64 x):=by rw[<-hW0];simp[go_sem]
 have z0:=hbW.size;clear hW0;refine(S0.out _ hbW).mono ?_;rintro e w1 ⟨A1,c1,rfl,o1,b1⟩;have N1:aaj W0 sb sb.length A1 c1 w1:=⟨rfl,o1,b1⟩
 have z1:=b1.size;have wC:=ae b1 k1;have bZ:True:=trivial;have fB:True:=trivial;have fQ:True:=trivial;have jg:True:=trivial;have jf:True:=trivial;have jh:True:=trivial;have jd:True:=trivial;have lX:True:=trivial;have jq:True:=trivial;go_wp2_with (first
  |(at_builtin;have _t:=bZ;refine aJ rfl (.tmp 13) (.tmp 14) rfl w1 W0.heap.size _ c1 A1 _ [47] rfl rfl o1 (by omega) (by omega) ?_;intro A2 c2 w2 p2 g2;clear _t bZ;have N2:=N1.next (us:=[[47]]) (aa0 _ _) p2 g2;have o2:=N2.2.1;have b2:=N2.2.2;have z2:=b2.size;have vV:=ae b2 k1)
  |(go_at_call 71;have _t:=fB;refine(S1.out _ (bt hbW b2)).mono ?_;rintro e w3 ⟨A3,c3,rfl,o3,b3⟩;clear _t fB;have z3:=b3.size)
  |(at_builtin;have _t:=fQ;refine bU rfl (.tmp 16) (.tmp 20) rfl w3 W0.heap.size _ c2 A2 _ w3.heap.size A3 _ c3 si rfl rfl (own_below o2 b3) (cZ o3 rfl) (by omega) (by omega) ?_;intro A4 c4 w4 p4 g4;clear _t fQ;have N4:=N2.next (us:=si) b3 p4 g4;have o4:=N4.2.1;have b4:=N4.2.2;have z4:=b4.size)
  |(at_builtin;have _t:=jg;refine aJ rfl (.tmp 22) (.tmp 23) rfl w4 W0.heap.size _ c4 A4 _ [47] rfl rfl o4 (by omega) (by omega) ?_;intro A5 c5 w5 p5 g5;clear _t jg;have N5:=N4.next (us:=[[47]]) (aa0 _ _) p5 g5;have o5:=N5.2.1;have b5:=N5.2.2;have z5:=b5.size;have uX:=ae b5 k2)
  |(go_at_call 71;have _t:=jf;refine(S2.out _ (bt hbW b5)).mono ?_;rintro e w6 ⟨A6,c6,rfl,o6,b6⟩;clear _t jf;have z6:=b6.size)
  |(at_builtin;have _t:=jh;refine bU rfl (.tmp 25) (.tmp 29) rfl w6 W0.heap.size _ c5 A5 _ w6.heap.size A6 _ c6 sa rfl rfl (own_below o5 b6) (cZ o6 rfl) (by omega) (by omega) ?_;intro A7 c7 w7 p7 g7;clear _t jh;have N7:=N5.next (us:=sa) b6 p7 g7;have o7:=N7.2.1;have b7:=N7.2.2;have z7:=b7.size)
  |(at_builtin;have _t:=jd;refine aJ rfl (.tmp 31) (.tmp 32) rfl w7 W0.heap.size _ c7 A7 _ [62] rfl rfl o7 (by omega) (by omega) ?_;intro A8 c8 w8 p8 g8;clear _t jd;have N8:=N7.next (us:=[[62]]) (aa0 _ _) p8 g8;have o8:=N8.2.1;have b8:=N8.2.2;have z8:=b8.size;have vw:=ae b8 k3;have vT:=ae b8 k4;have vZ:=ae b8 k5)
  |(go_at_call 72;have _t:=lX;refine(S3.out _ (bt hbW b8)).mono ?_;rintro e w9 ⟨A9,c9,rfl,o9,b9⟩;clear _t lX;have z9:=b9.size)
  |(at_builtin;have _t:=jq;refine bU rfl (.tmp 40) (.tmp 44) rfl w9 W0.heap.size _ c8 A8 _ w9.heap.size A9 _ c9 so rfl rfl (own_below o8 b9) (cZ o9 rfl) (by omega) (by omega) ?_;intro A10 c10 w10 p10 g10;clear _t jq;have iq:=N8.next (us:=so) b9 p10 g10;have qi:=iq.2.1;have b10:=iq.2.2;have z10:=b10.size)
  |(go_at_call 20;((with_reducible refine(gZ _ Bd g fc txt bn A10 c10 _ _ iq.len (hp.below (bt hbW b10)) (fM qi) HL.out).mono ?_);rintro e wz ⟨rfl,hpz,hkz,hbz⟩)))
 go_end0
 refine⟨rfl,?_,(KP.below (bt hbW b10)).trans hkz,((bt hbW b10).mono hBd).trans hbz⟩;rw[HE.out];simpa [ai] using hpz
theorem NE
  (w:World) (Bd g:Nat) (fc:Nat->Value) (txt:B) (A0 B1 B2 B3 B4:Option Addr) (c0 d1 d2 d3 d4:Nat) (back in' ahead:List (List Int)) (out:List Int) (calls:List Call) (x:Int) (sb si sa so:List B)
  (hp:Pr w Bd g fc txt) (hBd:Bd<=w.heap.size)
  (S0:Hid (∀w',Below w.heap.size w w'->Calls Tryd.prog 71 #[.pointer (some ⟨g,0,none⟩),.slice A0 back.length c0] w' (bY w' sb)))
  (S1:Hid (∀w',Below w.heap.size w w'->Calls Tryd.prog 71 #[.pointer (some ⟨g,0,none⟩),.slice B1 in'.length d1] w' (bY w' si)))
  (S2:Hid (∀w',Below w.heap.size w w'->Calls Tryd.prog 71 #[.pointer (some ⟨g,0,none⟩),.slice B2 ahead.length d2] w' (bY w' sa)))
  (hW:sb.length+si.length+sa.length+so.length+3<=10000000000)
  (tx:B) (S3:Hid (∀w',Below w.heap.size w w'->Calls Tryd.prog 21 #[.int .i64 x] w' fun e w''=>e= .returned (.string ⟨tx.toArray⟩)/\Below w'.heap.size w' w''))
  (W:List B) (HE:Hid (W=sb++[[47]]++si++[[47]]++sa++[[62]]++[tx])) (HL:Hid (txt.length+(ai bn (sb++[[47]]++si++[[47]]++sa++[[62]]++[tx])).length<=1000000000000/\(sb++[[47]]++si++[[47]]++sa++[[62]]++[tx]).length<=1000000000000)):
  Calls Tryd.prog 49 #[.pointer (some ⟨g,0,none⟩),.int .i64 6,.agg #[.slice A0 back.length c0,.slice B1 in'.length d1,.slice B2 ahead.length d2,.slice B3 out.length d3,.slice B4 calls.length d4,.int .i64 x]] w
   fun e w'=>e= .returned (.tuple #[])/\Pr w' Bd g fc (txt++ai bn W)/\KP w w'/\Below Bd w w':=by
 go_enter Tryd.func49,Tryd.ntmps49
 go_wp2_with fail
 obtain⟨W0,hW0⟩:∃W0,w.alloc (.cells #[.slice A0 back.length c0,.slice B1 in'.length d1,.slice B2 ahead.length d2,.slice B3 out.length d3,.slice B4 calls.length d4,.int .i64 x] 78)=W0:=⟨_,rfl⟩
 rw[hW0];have hbW:Below w.heap.size w W0:=by rw[<-hW0];exact(aa0 _ _).alloc (ag _) _
 have k1:W0.cell? ⟨w.heap.size,1,none⟩=some (.slice B1 in'.length d1):=by rw[<-hW0];simp[go_sem]
 have k2:W0.cell? ⟨w.heap.size,2,none⟩=some (.slice B2 ahead.length d2):=by rw[<-hW0];simp[go_sem]
 have k3:W0.cell? ⟨w.heap.size,3,none⟩=some (.slice B3 out.length d3):=by rw[<-hW0];simp[go_sem]
 have k4:W0.cell? ⟨w.heap.size,4,none⟩=some (.slice B4 calls.length d4):=by rw[<-hW0];simp[go_sem]
 have k5:W0.cell? ⟨w.heap.size,5,none⟩=some (.int .i64 x):=by rw[<-hW0];simp[go_sem]
 have z0:=hbW.size;clear hW0;refine(S0.out _ hbW).mono ?_;rintro e w1 ⟨A1,c1,rfl,o1,b1⟩;have N1:aaj W0 sb sb.length A1 c1 w1:=⟨rfl,o1,b1⟩
 have z1:=b1.size;have wC:=ae b1 k1;have bZ:True:=trivial;have fB:True:=trivial;have fQ:True:=trivial;have jg:True:=trivial;have jf:True:=trivial;have jh:True:=trivial;have jd:True:=trivial;have lX:True:=trivial;have jq:True:=trivial;go_wp2_with (first
  |(at_builtin;have _t:=bZ;refine aJ rfl (.tmp 13) (.tmp 14) rfl w1 W0.heap.size _ c1 A1 _ [47] rfl rfl o1 (by omega) (by omega) ?_;intro A2 c2 w2 p2 g2;clear _t bZ;have N2:=N1.next (us:=[[47]]) (aa0 _ _) p2 g2;have o2:=N2.2.1;have b2:=N2.2.2;have z2:=b2.size;have vV:=ae b2 k1)
  |(go_at_call 71;have _t:=fB;refine(S1.out _ (bt hbW b2)).mono ?_;rintro e w3 ⟨A3,c3,rfl,o3,b3⟩;clear _t fB;have z3:=b3.size)
  |(at_builtin;have _t:=fQ;refine bU rfl (.tmp 16) (.tmp 20) rfl w3 W0.heap.size _ c2 A2 _ w3.heap.size A3 _ c3 si rfl rfl (own_below o2 b3) (cZ o3 rfl) (by omega) (by omega) ?_;intro A4 c4 w4 p4 g4;clear _t fQ;have N4:=N2.next (us:=si) b3 p4 g4;have o4:=N4.2.1;have b4:=N4.2.2;have z4:=b4.size)
  |(at_builtin;have _t:=jg;refine aJ rfl (.tmp 22) (.tmp 23) rfl w4 W0.heap.size _ c4 A4 _ [47] rfl rfl o4 (by omega) (by omega) ?_;intro A5 c5 w5 p5 g5;clear _t jg;have N5:=N4.next (us:=[[47]]) (aa0 _ _) p5 g5;have o5:=N5.2.1;have b5:=N5.2.2;have z5:=b5.size;have uX:=ae b5 k2)
  |(go_at_call 71;have _t:=jf;refine(S2.out _ (bt hbW b5)).mono ?_;rintro e w6 ⟨A6,c6,rfl,o6,b6⟩;clear _t jf;have z6:=b6.size)
  |(at_builtin;have _t:=jh;refine bU rfl (.tmp 25) (.tmp 29) rfl w6 W0.heap.size _ c5 A5 _ w6.heap.size A6 _ c6 sa rfl rfl (own_below o5 b6) (cZ o6 rfl) (by omega) (by omega) ?_;intro A7 c7 w7 p7 g7;clear _t jh;have N7:=N5.next (us:=sa) b6 p7 g7;have o7:=N7.2.1;have b7:=N7.2.2;have z7:=b7.size)
  |(at_builtin;have _t:=jd;refine aJ rfl (.tmp 31) (.tmp 32) rfl w7 W0.heap.size _ c7 A7 _ [62] rfl rfl o7 (by omega) (by omega) ?_;intro A8 c8 w8 p8 g8;clear _t jd;have N8:=N7.next (us:=[[62]]) (aa0 _ _) p8 g8;have o8:=N8.2.1;have b8:=N8.2.2;have z8:=b8.size;have vw:=ae b8 k3;have vT:=ae b8 k4;have vZ:=ae b8 k5)
  |(go_at_call 21;refine(S3.out _ (bt hbW b8)).mono ?_;rintro e w9 ⟨rfl,b9⟩;have z9:=b9.size)
  |(at_builtin;refine aJ rfl (.tmp 69) (.tmp 73) rfl w9 W0.heap.size _ c8 A8 _ tx rfl rfl (own_below o8 b9) (by omega) (by omega) ?_;intro A10 c10 w10 p10 g10;have iq:=N8.next (us:=[tx]) b9 p10 g10;have qi:=iq.2.1;have b10:=iq.2.2;have z10:=b10.size)
  |(go_at_call 20;((with_reducible refine(gZ _ Bd g fc txt bn A10 c10 _ _ iq.len (hp.below (bt hbW b10)) (fM qi) HL.out).mono ?_);rintro e wz ⟨rfl,hpz,hkz,hbz⟩)))
 go_end0
 refine⟨rfl,?_,(KP.below (bt hbW b10)).trans hkz,((bt hbW b10).mono hBd).trans hbz⟩;rw[HE.out];simpa [ai] using hpz
theorem ED
  (w:World) (Bd g:Nat) (fc:Nat->Value) (txt:B) (A0 B1 B2 B3 B4:Option Addr) (c0 d1 d2 d3 d4:Nat) (back in' ahead:List (List Int)) (out:List Int) (calls:List Call) (x:Int) (sb si sa so:List B)
  (hp:Pr w Bd g fc txt) (hBd:Bd<=w.heap.size)
  (S0:Hid (∀w',Below w.heap.size w w'->Calls Tryd.prog 71 #[.pointer (some ⟨g,0,none⟩),.slice A0 back.length c0] w' (bY w' sb)))
  (S1:Hid (∀w',Below w.heap.size w w'->Calls Tryd.prog 71 #[.pointer (some ⟨g,0,none⟩),.slice B1 in'.length d1] w' (bY w' si)))
  (S2:Hid (∀w',Below w.heap.size w w'->Calls Tryd.prog 71 #[.pointer (some ⟨g,0,none⟩),.slice B2 ahead.length d2] w' (bY w' sa)))
  (hW:sb.length+si.length+sa.length+so.length+3<=10000000000)
  (kind:Int) (h1:(kind==1)=false) (h2:(kind==2)=false) (h3:(kind==3)=false) (h4:(kind==4)=false) (h5:(kind==5)=false) (h6:(kind==6)=false)
  (W:List B) (HE:Hid (W=sb++[[47]]++si++[[47]]++sa++[[62]])) (HL:Hid (txt.length+(ai bn (sb++[[47]]++si++[[47]]++sa++[[62]])).length<=1000000000000/\(sb++[[47]]++si++[[47]]++sa++[[62]]).length<=1000000000000)):
  Calls Tryd.prog 49 #[.pointer (some ⟨g,0,none⟩),.int .i64 kind,.agg #[.slice A0 back.length c0,.slice B1 in'.length d1,.slice B2 ahead.length d2,.slice B3 out.length d3,.slice B4 calls.length d4,.int .i64 x]] w
   fun e w'=>e= .returned (.tuple #[])/\Pr w' Bd g fc (txt++ai bn W)/\KP w w'/\Below Bd w w':=by
 go_enter Tryd.func49,Tryd.ntmps49
 go_wp2_with fail
 obtain⟨W0,hW0⟩:∃W0,w.alloc (.cells #[.slice A0 back.length c0,.slice B1 in'.length d1,.slice B2 ahead.length d2,.slice B3 out.length d3,.slice B4 calls.length d4,.int .i64 x] 78)=W0:=⟨_,rfl⟩
 rw[hW0];have hbW:Below w.heap.size w W0:=by rw[<-hW0];exact(aa0 _ _).alloc (ag _) _
 have k1:W0.cell? ⟨w.heap.size,1,none⟩=some (.slice B1 in'.length d1):=by rw[<-hW0];simp[go_sem]
 have k2:W0.cell? ⟨w.heap.size,2,none⟩=some (.slice B2 ahead.length d2):=by rw[<-hW0];simp[go_sem]
 have k3:W0.cell? ⟨w.heap.size,3,none⟩=some (.slice B3 out.length d3):=by rw[<-hW0];simp[go_sem]
 have k4:W0.cell? ⟨w.heap.size,4,none⟩=some (.slice B4 calls.length d4):=by rw[<-hW0];simp[go_sem]
 have k5:W0.cell? ⟨w.heap.size,5,none⟩=some (.int .i64 x):=by rw[<-hW0];simp[go_sem]
 have z0:=hbW.size;clear hW0;refine(S0.out _ hbW).mono ?_;rintro e w1 ⟨A1,c1,rfl,o1,b1⟩;have N1:aaj W0 sb sb.length A1 c1 w1:=⟨rfl,o1,b1⟩
 have z1:=b1.size;have wC:=ae b1 k1;have bZ:True:=trivial;have fB:True:=trivial;have fQ:True:=trivial;have jg:True:=trivial;have jf:True:=trivial;have jh:True:=trivial;have jd:True:=trivial;have lX:True:=trivial;have jq:True:=trivial;go_wp2_with (first
  |(at_builtin;have _t:=bZ;refine aJ rfl (.tmp 13) (.tmp 14) rfl w1 W0.heap.size _ c1 A1 _ [47] rfl rfl o1 (by omega) (by omega) ?_;intro A2 c2 w2 p2 g2;clear _t bZ;have N2:=N1.next (us:=[[47]]) (aa0 _ _) p2 g2;have o2:=N2.2.1;have b2:=N2.2.2;have z2:=b2.size;have vV:=ae b2 k1)
  |(go_at_call 71;have _t:=fB;refine(S1.out _ (bt hbW b2)).mono ?_;rintro e w3 ⟨A3,c3,rfl,o3,b3⟩;clear _t fB;have z3:=b3.size)
  |(at_builtin;have _t:=fQ;refine bU rfl (.tmp 16) (.tmp 20) rfl w3 W0.heap.size _ c2 A2 _ w3.heap.size A3 _ c3 si rfl rfl (own_below o2 b3) (cZ o3 rfl) (by omega) (by omega) ?_;intro A4 c4 w4 p4 g4;clear _t fQ;have N4:=N2.next (us:=si) b3 p4 g4;have o4:=N4.2.1;have b4:=N4.2.2;have z4:=b4.size)
  |(at_builtin;have _t:=jg;refine aJ rfl (.tmp 22) (.tmp 23) rfl w4 W0.heap.size _ c4 A4 _ [47] rfl rfl o4 (by omega) (by omega) ?_;intro A5 c5 w5 p5 g5;clear _t jg;have N5:=N4.next (us:=[[47]]) (aa0 _ _) p5 g5;have o5:=N5.2.1;have b5:=N5.2.2;have z5:=b5.size;have uX:=ae b5 k2)
  |(go_at_call 71;have _t:=jf;refine(S2.out _ (bt hbW b5)).mono ?_;rintro e w6 ⟨A6,c6,rfl,o6,b6⟩;clear _t jf;have z6:=b6.size)
  |(at_builtin;have _t:=jh;refine bU rfl (.tmp 25) (.tmp 29) rfl w6 W0.heap.size _ c5 A5 _ w6.heap.size A6 _ c6 sa rfl rfl (own_below o5 b6) (cZ o6 rfl) (by omega) (by omega) ?_;intro A7 c7 w7 p7 g7;clear _t jh;have N7:=N5.next (us:=sa) b6 p7 g7;have o7:=N7.2.1;have b7:=N7.2.2;have z7:=b7.size)
  |(at_builtin;have _t:=jd;refine aJ rfl (.tmp 31) (.tmp 32) rfl w7 W0.heap.size _ c7 A7 _ [62] rfl rfl o7 (by omega) (by omega) ?_;intro A8 c8 w8 p8 g8;clear _t jd;have N8:=N7.next (us:=[[62]]) (aa0 _ _) p8 g8;have o8:=N8.2.1;have b8:=N8.2.2;have z8:=b8.size;have vw:=ae b8 k3;have vT:=ae b8 k4;have vZ:=ae b8 k5)
  |(go_at_call 20;((with_reducible refine(gZ _ Bd g fc txt bn A8 c8 _ _ N8.len (hp.below (bt hbW b8)) (fM o8) HL.out).mono ?_);rintro e wz ⟨rfl,hpz,hkz,hbz⟩)))
 go_end0
 refine⟨rfl,?_,(KP.below (bt hbW b8)).trans hkz,((bt hbW b8).mono hBd).trans hbz⟩;rw[HE.out];simpa [ai] using hpz
theorem OQ
  (w:World) (Bd g:Nat) (fc:Nat->Value) (txt:B) (A0 B1 B2 B3 B4:Option Addr) (c0 d1 d2 d3 d4:Nat) (back in' ahead:List (List Int)) (out:List Int) (calls:List Call) (x:Int) (sb si sa so:List B)
  (hp:Pr w Bd g fc txt) (hBd:Bd<=w.heap.size)
  (S0:Hid (∀w',Below w.heap.size w w'->Calls Tryd.prog 71 #[.pointer (some ⟨g,0,none⟩),.slice A0 back.length c0] w' (bY w' sb)))
  (S1:Hid (∀w',Below w.heap.size w w'->Calls Tryd.prog 71 #[.pointer (some ⟨g,0,none⟩),.slice B1 in'.length d1] w' (bY w' si)))
  (S2:Hid (∀w',Below w.heap.size w w'->Calls Tryd.prog 71 #[.pointer (some ⟨g,0,none⟩),.slice B2 ahead.length d2] w' (bY w' sa)))
  (hW:sb.length+si.length+sa.length+so.length+3<=10000000000)
  (hT:Tabs w) (hC:Sl ZZ 2 w (FT w) B4 calls) (hcl:calls.length<=so.length) (HS:Hid (so=calls.map (fun c=>af c.at'++58::af c.lookup)))
  (W:List B) (HE:Hid (W=sb++[[47]]++si++[[47]]++sa++[[62]]++so)) (HL:Hid (txt.length+(ai bn (sb++[[47]]++si++[[47]]++sa++[[62]]++so)).length<=1000000000000/\(sb++[[47]]++si++[[47]]++sa++[[62]]++so).length<=1000000000000)):
  Calls Tryd.prog 49 #[.pointer (some ⟨g,0,none⟩),.int .i64 4,.agg #[.slice A0 back.length c0,.slice B1 in'.length d1,.slice B2 ahead.length d2,.slice B3 out.length d3,.slice B4 calls.length d4,.int .i64 x]] w
   fun e w'=>e= .returned (.tuple #[])/\Pr w' Bd g fc (txt++ai bn W)/\KP w w'/\Below Bd w w':=by
 go_enter Tryd.func49,Tryd.ntmps49
 go_wp2_with fail
 obtain⟨W0,hW0⟩:∃W0,w.alloc (.cells #[.slice A0 back.length c0,.slice B1 in'.length d1,.slice B2 ahead.length d2,.slice B3 out.length d3,.slice B4 calls.length d4,.int .i64 x] 78)=W0:=⟨_,rfl⟩
 rw[hW0];have hbW:Below w.heap.size w W0:=by rw[<-hW0];exact(aa0 _ _).alloc (ag _) _
 have k1:W0.cell? ⟨w.heap.size,1,none⟩=some (.slice B1 in'.length d1):=by rw[<-hW0];simp[go_sem]
 have k2:W0.cell? ⟨w.heap.size,2,none⟩=some (.slice B2 ahead.length d2):=by rw[<-hW0];simp[go_sem]
 have k3:W0.cell? ⟨w.heap.size,3,none⟩=some (.slice B3 out.length d3):=by rw[<-hW0];simp[go_sem]
 have k4:W0.cell? ⟨w.heap.size,4,none⟩=some (.slice B4 calls.length d4):=by rw[<-hW0];simp[go_sem]
 have k5:W0.cell? ⟨w.heap.size,5,none⟩=some (.int .i64 x):=by rw[<-hW0];simp[go_sem]
 have z0:=hbW.size;clear hW0;refine(S0.out _ hbW).mono ?_;rintro e w1 ⟨A1,c1,rfl,o1,b1⟩;have N1:aaj W0 sb sb.length A1 c1 w1:=⟨rfl,o1,b1⟩
 have z1:=b1.size;have wC:=ae b1 k1;have bZ:True:=trivial;have fB:True:=trivial;have fQ:True:=trivial;have jg:True:=trivial;have jf:True:=trivial;have jh:True:=trivial;have jd:True:=trivial;have lX:True:=trivial;have jq:True:=trivial;go_wp2_with (first
  |(at_builtin;have _t:=bZ;refine aJ rfl (.tmp 13) (.tmp 14) rfl w1 W0.heap.size _ c1 A1 _ [47] rfl rfl o1 (by omega) (by omega) ?_;intro A2 c2 w2 p2 g2;clear _t bZ;have N2:=N1.next (us:=[[47]]) (aa0 _ _) p2 g2;have o2:=N2.2.1;have b2:=N2.2.2;have z2:=b2.size;have vV:=ae b2 k1)
  |(go_at_call 71;have _t:=fB;refine(S1.out _ (bt hbW b2)).mono ?_;rintro e w3 ⟨A3,c3,rfl,o3,b3⟩;clear _t fB;have z3:=b3.size)
  |(at_builtin;have _t:=fQ;refine bU rfl (.tmp 16) (.tmp 20) rfl w3 W0.heap.size _ c2 A2 _ w3.heap.size A3 _ c3 si rfl rfl (own_below o2 b3) (cZ o3 rfl) (by omega) (by omega) ?_;intro A4 c4 w4 p4 g4;clear _t fQ;have N4:=N2.next (us:=si) b3 p4 g4;have o4:=N4.2.1;have b4:=N4.2.2;have z4:=b4.size)
  |(at_builtin;have _t:=jg;refine aJ rfl (.tmp 22) (.tmp 23) rfl w4 W0.heap.size _ c4 A4 _ [47] rfl rfl o4 (by omega) (by omega) ?_;intro A5 c5 w5 p5 g5;clear _t jg;have N5:=N4.next (us:=[[47]]) (aa0 _ _) p5 g5;have o5:=N5.2.1;have b5:=N5.2.2;have z5:=b5.size;have uX:=ae b5 k2)
  |(go_at_call 71;have _t:=jf;refine(S2.out _ (bt hbW b5)).mono ?_;rintro e w6 ⟨A6,c6,rfl,o6,b6⟩;clear _t jf;have z6:=b6.size)
  |(at_builtin;have _t:=jh;refine bU rfl (.tmp 25) (.tmp 29) rfl w6 W0.heap.size _ c5 A5 _ w6.heap.size A6 _ c6 sa rfl rfl (own_below o5 b6) (cZ o6 rfl) (by omega) (by omega) ?_;intro A7 c7 w7 p7 g7;clear _t jh;have N7:=N5.next (us:=sa) b6 p7 g7;have o7:=N7.2.1;have b7:=N7.2.2;have z7:=b7.size)
  |(at_builtin;have _t:=jd;refine aJ rfl (.tmp 31) (.tmp 32) rfl w7 W0.heap.size _ c7 A7 _ [62] rfl rfl o7 (by omega) (by omega) ?_;intro A8 c8 w8 p8 g8;clear _t jd;have N8:=N7.next (us:=[[62]]) (aa0 _ _) p8 g8;have o8:=N8.2.1;have b8:=N8.2.2;have z8:=b8.size;have vw:=ae b8 k3;have vT:=ae b8 k4;have vZ:=ae b8 k5))
 obtain⟨TF,IB⟩:∃TF,TF=w8:=⟨_,rfl⟩
 have MZ:=N8;rw[<-IB] at MZ;go_loopw [6,51] (fun v i wr=>∃k n A c,k<=calls.length/\i= .int .i64 (k:Nat)/\v= .slice A n c/\n<=sb.length+1+si.length+1+sa.length+1+k/\aaj W0 (sb++[[47]]++si++[[47]]++sa++[[62]]++(calls.take k).map (fun c=>af c.at'++58::af c.lookup)) n A c wr) (fun _ i _=>calls.length - (intOf i).toNat)
 case atStart=>exact⟨0,_,A8,c8,nz _,rfl,rfl,by omega,by simpa using N8⟩
 case round=>
  obtain⟨k,n,A9,c9,hk,rfl,rfl,hnn,N9⟩:=hrel;have b9:=N9.2.2;have o9:=N9.2.1;have z9:=b9.size;have yM:=bt hbW b9;by_cases hlt:k<calls.length
  ·obtain⟨b,o,x',rfl,-,hx,e0,e1,r0,r1⟩:=((KP.below yM).sl ZZ.ok hC).call hlt;have HS2:=hd0 (gu (fun c:Call=>af c.at'++58::af c.lookup) calls k x' hx.out);generalize hws:sb++[[47]]++si++[[47]]++sa++[[62]]++(calls.take k).map (fun c=>af c.at'++58::af c.lookup)=ws at*
   have Hws:=hd0 hws;obtain⟨x0,x1⟩:=x';dsimp only at e0 e1 r0 r1;have hT1:=hT.all yM;have n0:=hd0 (fun w hT=>aA w x0 hT r0);have n1:=hd0 (fun w hT=>aA w x1 hT r1);have l0:=jU r0;have l1:=jU r1;generalize af x0=t0 at*
   generalize af x1=t1 at*
   obtain⟨u1,a1,m1,U1⟩:=lF t0 [58] (by omega) (by simp);obtain⟨u2,a2,m2,U2⟩:=lF u1 t1 (by simp only[lc,ln] at m1;omega) (by omega);simp only[lc,ln] at m1;have hne:Hid (some wr.heap.size≠(Value.slice A9 n c9).ownBlock):=fun e=>by have:=(o9.lt _ e.symm).2;omega
   have hll:n+1<=1000000000000:=by omega
   clear hx hws r0 r1 IB MZ;go_wp2_with fail
   obtain⟨W1,hW1⟩:∃W1,wr.alloc (.cells #[.int .i64 x0,.int .i64 x1] 80)=W1:=⟨_,rfl⟩
   rw[hW1];have hb0:Below wr.heap.size wr W1:=by rw[<-hW1];exact(aa0 _ _).alloc (ag _) _
   have hT2:=hT1.all hb0;have PU:W1.cell? ⟨wr.heap.size,0,none⟩=some (.int .i64 x0):=by rw[<-hW1];simp[go_sem]
   have Me:W1.cell? ⟨wr.heap.size,1,none⟩=some (.int .i64 x1):=by rw[<-hW1];simp[go_sem]
   have zk:=hb0.size;clear hW1 e0 e1
   go_region_held3 (fun w'=>w'.cell? ⟨wr.heap.size,0,none⟩=some (.int .i64 x0)/\w'.cell? ⟨wr.heap.size,1,none⟩=some (.int .i64 x1))
    (first
     |exact⟨jE hg4 (ae hc2 PU) hne.out,jE hg4 (ae hc2 Me) hne.out⟩
     |exact⟨ae hc2 PU,ae hc2 Me⟩
     |exact⟨ae hc1 PU,ae hc1 Me⟩
     |go_keep)
    (first
     |(go_at_call 21;refine(n0.out _ hT2.drew).mono ?_;rintro e v1 ⟨rfl,hb1⟩;have hc1:=dW hb1;have y1:=hc1.size)
     |(go_at_call 21;refine(n1.out _ (hT2.all hc1)).mono ?_;rintro e v2 ⟨rfl,hb2⟩;have hc2:=bt hc1 hb2;have y2:=hc2.size)
     |(refine wW (by rfl) (.tmp 55) (.tmp 64) (by rfl) v2 v2.heap.size rfl W0.heap.size n c9 1 A9 _ [u2] rfl (by go_simp) (by go_simp) (own_below o9 (bt hb0 hc2)) hll (nt z9 (nt zk y2)) ?_;intro A10 c10 w10 p10 hg4))
   have iq:=N9.next (us:=[u2]) (bt hb0 hc2) p10 hg4;go_wp2;go_roundw
   case rel=>refine⟨k+1,n+1,A10,c10,by omega,by simp,rfl,by omega,?_⟩;rw[<-Hws.out] at iq;rw[HS2.out];rw[U2.out,U1.out] at iq;simpa using iq
   case measure=>simp[intOf];omega
  obtain rfl:k=calls.length:=by omega
  rw[aa6,<-HS.out] at N9;have b10:=N9.2.2;have qi:=N9.2.1;have XC:=hd0 N9.1;clear IB MZ o9 b9;go_wp2_with (go_at_call 20;((with_reducible refine(gZ _ Bd g fc txt bn A9 c9 _ _ XC.out (hp.below yM) (fM qi) HL.out).mono ?_);rintro e wz ⟨rfl,hpz,hkz,hbz⟩))
  go_end0
  refine⟨rfl,?_,(KP.below yM).trans hkz,(yM.mono hBd).trans hbz⟩;rw[HE.out];simpa [ai] using hpz
end
section
open Go.RowKit
def fO (i:Nat):B:=if i=0 then [46,110,111,116,100,101,102] else [103,(97+i).toUInt8]
theorem QG:∀i:Fin 10,nameB (fO i.val)=true:=by decide
theorem GU:∀k:Fin 11,((List.range k.val).map fO).Nodup:=by decide
def pM (i:Nat):B:=[97,120,(97+i).toUInt8]
theorem Nk:∀i:Fin 3,nameB (pM i.val)=true:=by decide
structure aan (k:Nat)(p:List Pt)(e:List Int):Prop where
 pts:∀x∈p,N9 x.x/\N9 x.y
 ends:iP 0 e p.length
 few:p.length<=5*k/\e.length=k
theorem Ad (es:List Int):∀(fr n k:Nat),iP fr es n->1<=k->iP fr (es++[((n+k:Nat):Int) - 1]) (n+k):=by
 induction es with
 |nil=>intro fr n k h hk;have h:fr=n:=h;refine⟨by omega,by omega,?_⟩;show _=_;omega
 |cons e r ih=>intro fr n k h hk;obtain⟨a,b,c⟩:=h;exact⟨a,by omega,ih _ _ _ c hk⟩
theorem aan.nil:aan 0 [] []:=⟨by simp,rfl,by simp⟩
theorem aan.snoc {k:Nat}{p:List Pt}{e:List Int}(h:aan k p e){q:List Pt}(hq:∀x∈q,N9 x.x/\N9 x.y)(h1:1<=q.length)(h5:q.length<=5){z:Int}(hz:z=((p.length+q.length:Nat):Int) - 1):aan (k+1) (p++q) (e++[z]):=by
 subst hz;refine⟨fun x hx=> ?_,?_,?_⟩
 ·rw[aa5] at hx;rcases hx with hx|hx
  ·exact h.pts x hx
  exact hq x hx
 ·rw[la];exact Ad _ _ _ _ h.ends h1
 have:=h.few;simp only[la,lc,ln];omega
structure aak (n:Nat)(s:List Int):Prop where
 set:Bh n s
 few:s.length<=4
theorem aak.one {n:Nat}{a:Int}(h:In n a):aak n [a]:=⟨⟨by simp,fun x hx=>by simp only[aa1] at hx;subst hx;exact h⟩,by simp⟩
theorem aak.snoc {n:Nat}{s:List Int}(h:aak n s){a:Int}(ha:In n a)(hlt:∀x∈s,x<a)(hl:s.length<4):aak n (s++[a]):=by
 refine⟨⟨?_,fun x hx=> ?_⟩,by simp;omega⟩
 ·rw[List.pairwise_append];exact⟨h.set.1,by simp,fun x hx y hy=>by simp only[aa1] at hy;subst hy;exact hlt x hx⟩
 rw[aa5,aa1] at hx;rcases hx with hx|rfl
 ·exact h.set.2 x hx
 exact ha
structure ZC (n k:Nat)(l:List (List Int)):Prop where
 sets:∀s∈l,aak n s
 few:l.length<=k
theorem ZC.nil (n k:Nat):ZC n k []:=⟨by simp,nz _⟩
theorem ZC.app {n k j:Nat}{a b:List (List Int)}(h:ZC n k a)(g:ZC n j b):ZC n (k+j) (a++b):=by
 refine⟨fun s hs=> ?_,by have:=h.few;have:=g.few;rw[la];omega⟩;rw[aa5] at hs;rcases hs with hs|hs
 ·exact h.sets s hs
 exact g.sets s hs
theorem ZC.one {n:Nat}{s:List Int}(h:aak n s):ZC n 1 [s]:=⟨fun x hx=>by simp only[aa1] at hx;subst hx;exact h,by simp⟩
theorem ZC.mono {n k j:Nat}{a:List (List Int)}(h:ZC n k a)(hk:k<=j):ZC n j a:=⟨h.sets,nt h.few hk⟩
structure ZI (n:Nat)(kind:Int)(r:Z8):Prop where
 right:OkR n kind r
 small:SmR r
theorem ZI.mk' {n:Nat}{kind:Int}{r:Z8}(hb:ZC n 3 r.back)(hi:ZC n 3 r.in')(ha:ZC n 3 r.ahead)(ho:(∀x∈r.out,In n x)/\r.out.length<=4)(hc:(∀c∈r.calls,N9 c.at'/\N9 c.lookup)/\r.calls.length<=2)(hx:N9 r.x)
  (h1:kind=1\/kind=5->∃s,r.in'=[s]/\r.out.length=s.length) (h2:kind=4\/6<=kind->r.out=[]) (h3:kind≠4->r.calls=[]) (h4:kind≠6->r.x=0):ZI n kind r:=
 ⟨{back:=fun s hs=>(hb.sets s hs).set,in':=fun s hs=>(hi.sets s hs).set,ahead:=fun s hs=>(ha.sets s hs).set,out:=ho.1,calls:=hc.1,x:=hx,one:=h1,outs:=h2,noC:=h3,noX:=h4},
 {rows:=⟨hb.few,hi.few,ha.few⟩,sets:=⟨fun s hs=>(hb.sets s hs).few,fun s hs=>(hi.sets s hs).few,fun s hs=>(ha.sets s hs).few⟩,outs:=⟨ho.2,hc.2⟩}⟩
structure aaB (n:Nat)(l:Lookup):Prop where
 kind:1<=l.kind/\l.kind<=8
 rules:∀r∈l.rules,ZI n l.kind r
 few:l.rules.length<=3
structure aat (i:Nat)(g:Zy):Prop where
 name:g.name=fO i
 right:OkG 2 g
 small:SmG g
theorem OkG.mono {n k:Nat}{g:Zy}(h:OkG n g)(hk:n<=k):OkG k g:=
 have hp:∀p∈g.parts,In k p.ZF/\N9 p.x/\N9 p.y:=fun p hp=>by
  have h1:=h.parts p hp;exact⟨⟨h1.1.1,by have:=h1.1.2;omega⟩,h1.2⟩
 {h with parts:=hp}
structure aaD (f:Fnt):Prop where
 right:aav f
 small:SmF f
theorem Ez {gs:List Zy}(h:∀i g,gs[i]? =some g->aat i g):gs.map (·.name)=(List.range gs.length).map fO:=by
 apply List.ext_getElem?;intro i;rw[abt,abt];by_cases hi:i<gs.length
 ·have e:=aa3 hi;rw[e,List.getElem?_range hi];simp only[Option.map_some,abq];exact(h i _ e).name
 rw[abp (by omega),abp (by rw[List.length_range];omega)];rfl
theorem Ko {f:Fnt}(hu:N9 f.unit)(ha:(∀a∈f.ZA,nameB a.name=true/\N9 a.min'/\N9 a.aas/\N9 a.max')/\f.ZA.length<=2)
  (hr:(∀r∈f.regions,(∀t∈r.ZU,N9 t.start/\N9 t.peak/\N9 t.stop)/\r.ZU.length<=2)/\f.regions.length<=3)
  (hc:(∀n∈f.ZB,N9 n)/\f.ZB.length<=3) (hf:(∀p∈f.funcs,gU p/\p.length<=60)/\f.funcs.length<=2)
  (hg:(∀i g,f.Zt[i]? =some g->aat i g)/\2<=f.Zt.length/\f.Zt.length<=10)
  (hch:(∀c∈f.chars,N9 c.rune/\In f.Zt.length c.ZF)/\f.chars.length<=16) (hl:(∀l∈f.Zu,aaB f.Zt.length l)/\f.Zu.length<=6)
  (hft:(∀x∈f.features,(nameB x.name=true/\∀n∈x.Zu,N9 n)/\x.Zu.length<=6)/\f.features.length<=8):aaD f:=by
 obtain⟨hg1,hg2,hg3⟩:=hg;have hgm:∀g∈f.Zt,∃i,aat i g:=fun g hg=>by
  obtain⟨i,hi⟩:=abk.1 hg;exact⟨i,hg1 i g hi⟩
 refine⟨{unit:=hu,ZA:=ha.1,regs:=fun r h=>(hr.1 r h).1,ZB:=hc.1,funcs:=fun p h=>(hf.1 p h).1,apart:= ?_,Zt:=fun g h=> ?_,chars:=hch.1,Zu:=fun l h=> ?_,aal:=fun x h=>(hft.1 x h).1,few:=by omega},{Zt:=⟨hg3,fun g h=> ?_⟩,chars:=hch.2,Zu:=⟨hl.2,fun l h=>⟨(hl.1 l h).few,fun r hr=>((hl.1 l h).rules r hr).small⟩⟩,aal:=⟨hft.2,fun x h=>(hft.1 x h).2⟩,ZA:=ha.2,regs:=⟨hr.2,fun r h=>(hr.1 r h).2⟩,funcs:=⟨hf.2,fun p h=>(hf.1 p h).2⟩,ZB:=hc.2}⟩
 ·rw[Ez hg1];exact GU ⟨f.Zt.length,by omega⟩
 ·obtain⟨i,hi⟩:=hgm g h;exact hi.right.mono hg2
 ·have:=hl.1 l h;exact⟨this.kind.1,this.kind.2,fun r hr=>(this.rules r hr).right⟩
 obtain⟨i,hi⟩:=hgm g h;exact hi.small
attribute [-go_sem] Builtin.append_
abbrev zx:TypeId:=9
theorem QN:ElT 9 46 1:= .mk Tryd.underlying46 (by kernel_rfl) (by decide)
def BQ (l:List B):List Value:=l.map fun s=> .string ⟨s.toArray⟩
def ZR (w0 w:World)(l:List B)(A:Option Addr)(c:Nat):Prop:=w.ownsRow w0.heap.size zx 1 (.slice A l.length c) l.length (BQ l)/\Below w0.heap.size w0 w
theorem ZR.start (w:World)(s:B):ZR w (w.alloc (.cells #[.string ⟨s.toArray⟩] zx)) [s] (some ⟨w.heap.size,0,none⟩) 1:=⟨kX w w.heap.size zx 1 1 #[.string ⟨s.toArray⟩] (ag _) rfl (by omega),(aa0 _ _).alloc (ag _) _⟩
theorem ZR.below {w0 w w':World}{l:List B}{A:Option Addr}{c:Nat}(h:ZR w0 w l A c)(hb:Below w.heap.size w w'):ZR w0 w' l A c:=⟨own_below h.1 hb,h.2.trans (hb.mono h.2.size)⟩
def KT (w w':World):Prop:=∀g t cs,Bk w g t cs->t≠zx->Bk w' g t cs
theorem KT.refl (w:World):KT w w:=fun _ _ _ h _=>h
theorem KT.trans {a b c:World}(h:KT a b)(k:KT b c):KT a c:=fun g t cs h1 h2=>k g t cs (h g t cs h1 h2) h2
theorem ZR.push {w0 w:World}{l:List B}{A:Option Addr}{c:Nat}(h:ZR w0 w l A c)(s:B)(n:Nat)(hn:l.length=n)(hl:n<=10000000000):
  ∃A' c' w',(Builtin.append_ #[46,46] 46 #[.slice A n c,.slice (some ⟨w.heap.size,0,none⟩) 1 1]).run Tryd.prog (w.alloc (.cells #[.string ⟨s.toArray⟩] zx))= .ok (.slice A' (n+1) c') w'/\ZR w0 w' (l++[s]) A' c'/\KT w w':=by
 subst hn;obtain⟨A',c',w',hrun,ho,hg,-⟩:=di QN 46 w w0.heap.size l.length c A (BQ l) #[.string ⟨s.toArray⟩] rfl h.1 (by simp[Value.oneCell']) hl h.2.size;refine⟨A',c',w',hrun,⟨?_,h.2.grown hg h.2.size (fun g e=>(h.1.lt g e).1)⟩,fun g t cs hk hne=>(hg.block g hk.lt (fun e=> ?_)).trans hk⟩
 case refine_2=>obtain⟨cur,hk2⟩:=dh h.1 g e.symm;exact hne (iT hk hk2).1
 have e:(l++[s]).length=l.length+1:=by simp
 rw[e];simpa [BQ] using ho
theorem ZR.cell {w0 w:World}{l:List B}{A:Option Addr}{c i:Nat}{s:B}(h:ZR w0 w l A c)(hs:l[i]? =some s):∃g,A=some ⟨g,0,none⟩/\w.cell? ⟨g,i,none⟩=some (.string ⟨s.toArray⟩):=by
 have hlt:=(aa2.1 hs).1;obtain⟨A',c',e,hr⟩:=Rd.ZX h.1;cases e;rcases h.1.2 with⟨h1,h2⟩|⟨g,cap,cur,h1,-⟩
 ·omega
 simp only[abQ,true_and] at h1;obtain⟨rfl,rfl⟩:=h1;obtain⟨b,o,e2,hb,hc⟩:=hr.2 (by omega);simp only[abq,Addr.mk.injEq,and_true] at e2;obtain⟨rfl,rfl⟩:=e2;refine⟨g,rfl,?_⟩;have:=hc i (.string ⟨s.toArray⟩) (by simp[BQ,hs]);simpa using this
theorem IQ (l:List B)(k:Nat)(s:B):l++List.replicate (k+1) s=l++List.replicate k s++[s]:=by rw[List.replicate_succ',abe]
theorem dP (w0 w:World)(l:List B)(A:Option Addr)(c m:Nat)(hm:l.length=m)(s:B)(n:Nat)(h:ZR w0 w l A c)(hl:m+n<=1000000000):Calls Tryd.prog 17 #[.slice A m c,.string ⟨s.toArray⟩,.int .i64 n] w fun e w'=>
  ∃A' c' m',e= .returned (.slice A' m' c')/\m'<=m+n/\Hid ((l++List.replicate n s).length=m')/\ZR w0 w' (l++List.replicate n s) A' c'/\KT w w':=by
 have H:=hd0 h;have HM:=hd0 hm;clear h hm;go_enter Tryd.func17,Tryd.ntmps17
 go_wp2_with fail
 go_loopw [0,7] (fun v i wr=>∃(k:Nat) (B:Option Addr) (d:Nat),k<=n/\v= .slice B (m+k) d/\i= .int .i64 k/\ZR w0 wr (l++List.replicate k s) B d/\KT w wr) (fun _ i _=>n - (intOf i).toNat)
 case atStart=>exact⟨0,A,c,by omega,rfl,rfl,by simpa using H.out,KT.refl _⟩
 case round=>
  obtain⟨k,B,d,hk,rfl,rfl,hw,hkt⟩:=hrel;have RF:=hd0 hkt;clear hkt;by_cases hlt:k<n
  ·obtain⟨B',d',w',hrun,hw',hk'⟩:=hw.push s (m+k) (by rw[la,List.length_replicate,HM.out]) (by omega);have HW:=hd0 hw';have EE:=hd0 (RF.out.trans hk');clear hw hw' hk';go_wp2_with fail
   go_roundw
   case rel=>exact⟨k+1,B',d',by omega,by simp[abK],by simp,by rw[IQ];exact HW.out,EE.out⟩
   case measure=>simp[intOf];omega
  obtain rfl:k=n:=by omega
  go_wp2_with fail
  go_ret
  exact⟨B,d,m+k,rfl,ag _,by show _=_;rw[la,List.length_replicate,HM.out],hw,RF.out⟩
theorem BJ (w:World){α:Type}(l:List α):Calls Tryd.prog 18 #[.int .i64 l.length] w fun e w'=>e= .returned (.int .i64 (dS l:Nat))/\w=w':=by
 go_enter Tryd.func18,Tryd.ntmps18
 by_cases h:0<l.length
 ·have e:dS l=1:=by unfold dS;cases l with|nil=>simp at h|cons _ _=>rfl
  rw[e];have b:decide ((0:Int)<l.length)=true:=decide_eq_true (by omega);go_wp2_with fail
  go_ret
  exact⟨rfl,rfl⟩
 have e:dS l=0:=by unfold dS;cases l with|nil=>rfl|cons _ _=>simp at h
 rw[e];have b:decide ((0:Int)<l.length)=false:=decide_eq_false (by omega);go_wp2_with fail
 go_ret
 exact⟨rfl,rfl⟩
end
end Go.Proofs.YtkijckccfookeaaDoor
