/- Lemmas. -/
import Derived.Test.YtkijckccfookeaaDoorSmall
set_option linter.unusedVariables false
set_option linter.unusedSimpArgs false
set_option maxRecDepth 100000
set_option maxHeartbeats 32000000
namespace Go.Proofs.YtkijckccfookeaaDoor
section
open Go.RowKit Go.Sort
theorem aft.len {w:World}{ws:List B}{n:Nat}{A:Option Addr}{c:Nat}{wr:World}(h:aft w ws n A c wr):n=ws.length:=h.1
theorem lh (w:World)(Bd g:Nat)(fc:Nat->Value)(txt first:B)(A:Option Addr)(c n:Nat)(ws:List B)(hn:n=ws.length)(h:Pr w Bd g fc txt)(hA:Sl afJ 1 w (FT w) A ws)(hlen:txt.length+(ax first ws).length<=1000000000000/\ws.length<=1000000000000):
  Calls Tryd.prog 20 #[.pointer (some ⟨g,0,none⟩),.string ⟨first.toArray⟩,.slice A n c] w fun e w'=>e= .returned (.tuple #[])/\Pr w' Bd g fc (txt++ax first ws)/\KP w w'/\Below Bd w w':=by
 subst hn;exact yj w Bd g fc txt first A c ws h hA hlen.1 hlen.2
theorem Yd
  (w:World) (Bd g:Nat) (fc:Nat->Value) (txt:B) (A0 B1 B2 B3 B4:Option Addr) (c0 d1 d2 d3 d4:Nat) (back in' ahead:List (List Int)) (out:List Int) (calls:List Call) (x:Int) (sb si sa so:List B)
  (hp:Pr w Bd g fc txt) (hBd:Bd<=w.heap.size)
  (S0:Hid (∀w',Below w.heap.size w w'->Calls Tryd.prog 71 #[.pointer (some ⟨g,0,none⟩),.slice A0 back.length c0] w' (dW w' sb)))
  (S1:Hid (∀w',Below w.heap.size w w'->Calls Tryd.prog 71 #[.pointer (some ⟨g,0,none⟩),.slice B1 in'.length d1] w' (dW w' si)))
  (S2:Hid (∀w',Below w.heap.size w w'->Calls Tryd.prog 71 #[.pointer (some ⟨g,0,none⟩),.slice B2 ahead.length d2] w' (dW w' sa)))
  (hW:sb.length+si.length+sa.length+so.length+3<=10000000000)
  (S3:Hid (∀w',Below w.heap.size w w'->Calls Tryd.prog 72 #[.pointer (some ⟨g,0,none⟩),.slice B3 out.length d3] w' (dW w' so)))
  (W:List B) (HE:Hid (W=sb++[[47]]++si++[[47]]++sa++[[62]]++so)) (HL:Hid (txt.length+(ax dC (sb++[[47]]++si++[[47]]++sa++[[62]]++so)).length<=1000000000000/\(sb++[[47]]++si++[[47]]++sa++[[62]]++so).length<=1000000000000)):
  Calls Tryd.prog 49 #[.pointer (some ⟨g,0,none⟩),.int .i64 1,.agg #[.slice A0 back.length c0,.slice B1 in'.length d1,.slice B2 ahead.length d2,.slice B3 out.length d3,.slice B4 calls.length d4,.int .i64 x]] w
   fun e w'=>e= .returned (.tuple #[])/\Pr w' Bd g fc (txt++ax dC W)/\KP w w'/\Below Bd w w':=by
 go_enter Tryd.func49,Tryd.ntmps49
 go_wp2_with fail
 obtain⟨W0,hW0⟩:∃W0,w.alloc (.cells #[.slice A0 back.length c0,.slice B1 in'.length d1,.slice B2 ahead.length d2,.slice B3 out.length d3,.slice B4 calls.length d4,.int .i64 x] 78)=W0:=⟨_,rfl⟩
 rw[hW0];have hbW:Below w.heap.size w W0:=by rw[<-hW0];exact(agE _ _).alloc (ai _) _
 have k1:W0.cell? ⟨w.heap.size,1,none⟩=some (.slice B1 in'.length d1):=by rw[<-hW0];simp[go_sem]
 have k2:W0.cell? ⟨w.heap.size,2,none⟩=some (.slice B2 ahead.length d2):=by rw[<-hW0];simp[go_sem]
 have k3:W0.cell? ⟨w.heap.size,3,none⟩=some (.slice B3 out.length d3):=by rw[<-hW0];simp[go_sem]
 have k4:W0.cell? ⟨w.heap.size,4,none⟩=some (.slice B4 calls.length d4):=by rw[<-hW0];simp[go_sem]
 have k5:W0.cell? ⟨w.heap.size,5,none⟩=some (.int .i64 x):=by rw[<-hW0];simp[go_sem]
 have z0:=hbW.size;clear hW0;refine(S0.out _ hbW).mono ?_;rintro e w1 ⟨A1,c1,rfl,o1,b1⟩;have N1:aft W0 sb sb.length A1 c1 w1:=⟨rfl,o1,b1⟩
 have z1:=b1.size;have CV:=ae b1 k1;have dY:True:=trivial;have jo:True:=trivial;have jV:True:=trivial;have ny:True:=trivial;have mY:True:=trivial;have mW:True:=trivial;have ng:True:=trivial;have tq:True:=trivial;have oC:True:=trivial;go_wp2_with (first
  |(at_builtin;have _t:=dY;refine bC rfl (.tmp 13) (.tmp 14) rfl w1 W0.heap.size _ c1 A1 _ [47] rfl rfl o1 (by omega) (by omega) ?_;intro A2 c2 w2 p2 g2;clear _t dY;have N2:=N1.next (us:=[[47]]) (agE _ _) p2 g2;have o2:=N2.2.1;have b2:=N2.2.2;have z2:=b2.size;have CB:=ae b2 k1)
  |(go_at_call 71;have _t:=jo;refine(S1.out _ (bt hbW b2)).mono ?_;rintro e w3 ⟨A3,c3,rfl,o3,b3⟩;clear _t jo;have z3:=b3.size)
  |(at_builtin;have _t:=jV;refine dQ rfl (.tmp 16) (.tmp 20) rfl w3 W0.heap.size _ c2 A2 _ w3.heap.size A3 _ c3 si rfl rfl (own_below o2 b3) (eG o3 rfl) (by omega) (by omega) ?_;intro A4 c4 w4 p4 g4;clear _t jV;have N4:=N2.next (us:=si) b3 p4 g4;have o4:=N4.2.1;have b4:=N4.2.2;have z4:=b4.size)
  |(at_builtin;have _t:=ny;refine bC rfl (.tmp 22) (.tmp 23) rfl w4 W0.heap.size _ c4 A4 _ [47] rfl rfl o4 (by omega) (by omega) ?_;intro A5 c5 w5 p5 g5;clear _t ny;have N5:=N4.next (us:=[[47]]) (agE _ _) p5 g5;have o5:=N5.2.1;have b5:=N5.2.2;have z5:=b5.size;have DK:=ae b5 k2)
  |(go_at_call 71;have _t:=mY;refine(S2.out _ (bt hbW b5)).mono ?_;rintro e w6 ⟨A6,c6,rfl,o6,b6⟩;clear _t mY;have z6:=b6.size)
  |(at_builtin;have _t:=mW;refine dQ rfl (.tmp 25) (.tmp 29) rfl w6 W0.heap.size _ c5 A5 _ w6.heap.size A6 _ c6 sa rfl rfl (own_below o5 b6) (eG o6 rfl) (by omega) (by omega) ?_;intro A7 c7 w7 p7 g7;clear _t mW;have N7:=N5.next (us:=sa) b6 p7 g7;have o7:=N7.2.1;have b7:=N7.2.2;have z7:=b7.size)
  |(at_builtin;have _t:=ng;refine bC rfl (.tmp 31) (.tmp 32) rfl w7 W0.heap.size _ c7 A7 _ [62] rfl rfl o7 (by omega) (by omega) ?_;intro A8 c8 w8 p8 g8;clear _t ng;have N8:=N7.next (us:=[[62]]) (agE _ _) p8 g8;have o8:=N8.2.1;have b8:=N8.2.2;have z8:=b8.size;have CE:=ae b8 k3;have DI:=ae b8 k4;have Dp:=ae b8 k5)
  |(go_at_call 72;have _t:=tq;refine(S3.out _ (bt hbW b8)).mono ?_;rintro e w9 ⟨A9,c9,rfl,o9,b9⟩;clear _t tq;have z9:=b9.size)
  |(at_builtin;have _t:=oC;refine dQ rfl (.tmp 40) (.tmp 44) rfl w9 W0.heap.size _ c8 A8 _ w9.heap.size A9 _ c9 so rfl rfl (own_below o8 b9) (eG o9 rfl) (by omega) (by omega) ?_;intro A10 c10 w10 p10 g10;clear _t oC;have lG:=N8.next (us:=so) b9 p10 g10;have wJ:=lG.2.1;have b10:=lG.2.2;have z10:=b10.size)
  |(go_at_call 20;((with_reducible refine(lh _ Bd g fc txt dC A10 c10 _ _ lG.len (hp.below (bt hbW b10)) (jP wJ) HL.out).mono ?_);rintro e wz ⟨rfl,hpz,hkz,hbz⟩)))
 go_end0
 refine⟨rfl,?_,(KP.below (bt hbW b10)).trans hkz,((bt hbW b10).mono hBd).trans hbz⟩;rw[HE.out];simpa [ax] using hpz
theorem Xn
  (w:World) (Bd g:Nat) (fc:Nat->Value) (txt:B) (A0 B1 B2 B3 B4:Option Addr) (c0 d1 d2 d3 d4:Nat) (back in' ahead:List (List Int)) (out:List Int) (calls:List Call) (x:Int) (sb si sa so:List B)
  (hp:Pr w Bd g fc txt) (hBd:Bd<=w.heap.size)
  (S0:Hid (∀w',Below w.heap.size w w'->Calls Tryd.prog 71 #[.pointer (some ⟨g,0,none⟩),.slice A0 back.length c0] w' (dW w' sb)))
  (S1:Hid (∀w',Below w.heap.size w w'->Calls Tryd.prog 71 #[.pointer (some ⟨g,0,none⟩),.slice B1 in'.length d1] w' (dW w' si)))
  (S2:Hid (∀w',Below w.heap.size w w'->Calls Tryd.prog 71 #[.pointer (some ⟨g,0,none⟩),.slice B2 ahead.length d2] w' (dW w' sa)))
  (hW:sb.length+si.length+sa.length+so.length+3<=10000000000)
  (S3:Hid (∀w',Below w.heap.size w w'->Calls Tryd.prog 72 #[.pointer (some ⟨g,0,none⟩),.slice B3 out.length d3] w' (dW w' so)))
  (W:List B) (HE:Hid (W=sb++[[47]]++si++[[47]]++sa++[[62]]++so)) (HL:Hid (txt.length+(ax dC (sb++[[47]]++si++[[47]]++sa++[[62]]++so)).length<=1000000000000/\(sb++[[47]]++si++[[47]]++sa++[[62]]++so).length<=1000000000000)):
  Calls Tryd.prog 49 #[.pointer (some ⟨g,0,none⟩),.int .i64 2,.agg #[.slice A0 back.length c0,.slice B1 in'.length d1,.slice B2 ahead.length d2,.slice B3 out.length d3,.slice B4 calls.length d4,.int .i64 x]] w
   fun e w'=>e= .returned (.tuple #[])/\Pr w' Bd g fc (txt++ax dC W)/\KP w w'/\Below Bd w w':=by
 go_enter Tryd.func49,Tryd.ntmps49
 go_wp2_with fail
 obtain⟨W0,hW0⟩:∃W0,w.alloc (.cells #[.slice A0 back.length c0,.slice B1 in'.length d1,.slice B2 ahead.length d2,.slice B3 out.length d3,.slice B4 calls.length d4,.int .i64 x] 78)=W0:=⟨_,rfl⟩
 rw[hW0];have hbW:Below w.heap.size w W0:=by rw[<-hW0];exact(agE _ _).alloc (ai _) _
 have k1:W0.cell? ⟨w.heap.size,1,none⟩=some (.slice B1 in'.length d1):=by rw[<-hW0];simp[go_sem]
 have k2:W0.cell? ⟨w.heap.size,2,none⟩=some (.slice B2 ahead.length d2):=by rw[<-hW0];simp[go_sem]
 have k3:W0.cell? ⟨w.heap.size,3,none⟩=some (.slice B3 out.length d3):=by rw[<-hW0];simp[go_sem]
 have k4:W0.cell? ⟨w.heap.size,4,none⟩=some (.slice B4 calls.length d4):=by rw[<-hW0];simp[go_sem]
 have k5:W0.cell? ⟨w.heap.size,5,none⟩=some (.int .i64 x):=by rw[<-hW0];simp[go_sem]
 have z0:=hbW.size;clear hW0;refine(S0.out _ hbW).mono ?_;rintro e w1 ⟨A1,c1,rfl,o1,b1⟩;have N1:aft W0 sb sb.length A1 c1 w1:=⟨rfl,o1,b1⟩
 have z1:=b1.size;have CV:=ae b1 k1;have dY:True:=trivial;have jo:True:=trivial;have jV:True:=trivial;have ny:True:=trivial;have mY:True:=trivial;have mW:True:=trivial;have ng:True:=trivial;have tq:True:=trivial;have oC:True:=trivial;go_wp2_with (first
  |(at_builtin;have _t:=dY;refine bC rfl (.tmp 13) (.tmp 14) rfl w1 W0.heap.size _ c1 A1 _ [47] rfl rfl o1 (by omega) (by omega) ?_;intro A2 c2 w2 p2 g2;clear _t dY;have N2:=N1.next (us:=[[47]]) (agE _ _) p2 g2;have o2:=N2.2.1;have b2:=N2.2.2;have z2:=b2.size;have CB:=ae b2 k1)
  |(go_at_call 71;have _t:=jo;refine(S1.out _ (bt hbW b2)).mono ?_;rintro e w3 ⟨A3,c3,rfl,o3,b3⟩;clear _t jo;have z3:=b3.size)
  |(at_builtin;have _t:=jV;refine dQ rfl (.tmp 16) (.tmp 20) rfl w3 W0.heap.size _ c2 A2 _ w3.heap.size A3 _ c3 si rfl rfl (own_below o2 b3) (eG o3 rfl) (by omega) (by omega) ?_;intro A4 c4 w4 p4 g4;clear _t jV;have N4:=N2.next (us:=si) b3 p4 g4;have o4:=N4.2.1;have b4:=N4.2.2;have z4:=b4.size)
  |(at_builtin;have _t:=ny;refine bC rfl (.tmp 22) (.tmp 23) rfl w4 W0.heap.size _ c4 A4 _ [47] rfl rfl o4 (by omega) (by omega) ?_;intro A5 c5 w5 p5 g5;clear _t ny;have N5:=N4.next (us:=[[47]]) (agE _ _) p5 g5;have o5:=N5.2.1;have b5:=N5.2.2;have z5:=b5.size;have DK:=ae b5 k2)
  |(go_at_call 71;have _t:=mY;refine(S2.out _ (bt hbW b5)).mono ?_;rintro e w6 ⟨A6,c6,rfl,o6,b6⟩;clear _t mY;have z6:=b6.size)
  |(at_builtin;have _t:=mW;refine dQ rfl (.tmp 25) (.tmp 29) rfl w6 W0.heap.size _ c5 A5 _ w6.heap.size A6 _ c6 sa rfl rfl (own_below o5 b6) (eG o6 rfl) (by omega) (by omega) ?_;intro A7 c7 w7 p7 g7;clear _t mW;have N7:=N5.next (us:=sa) b6 p7 g7;have o7:=N7.2.1;have b7:=N7.2.2;have z7:=b7.size)
  |(at_builtin;have _t:=ng;refine bC rfl (.tmp 31) (.tmp 32) rfl w7 W0.heap.size _ c7 A7 _ [62] rfl rfl o7 (by omega) (by omega) ?_;intro A8 c8 w8 p8 g8;clear _t ng;have N8:=N7.next (us:=[[62]]) (agE _ _) p8 g8;have o8:=N8.2.1;have b8:=N8.2.2;have z8:=b8.size;have CE:=ae b8 k3;have DI:=ae b8 k4;have Dp:=ae b8 k5)
  |(go_at_call 72;have _t:=tq;refine(S3.out _ (bt hbW b8)).mono ?_;rintro e w9 ⟨A9,c9,rfl,o9,b9⟩;clear _t tq;have z9:=b9.size)
  |(at_builtin;have _t:=oC;refine dQ rfl (.tmp 40) (.tmp 44) rfl w9 W0.heap.size _ c8 A8 _ w9.heap.size A9 _ c9 so rfl rfl (own_below o8 b9) (eG o9 rfl) (by omega) (by omega) ?_;intro A10 c10 w10 p10 g10;clear _t oC;have lG:=N8.next (us:=so) b9 p10 g10;have wJ:=lG.2.1;have b10:=lG.2.2;have z10:=b10.size)
  |(go_at_call 20;((with_reducible refine(lh _ Bd g fc txt dC A10 c10 _ _ lG.len (hp.below (bt hbW b10)) (jP wJ) HL.out).mono ?_);rintro e wz ⟨rfl,hpz,hkz,hbz⟩)))
 go_end0
 refine⟨rfl,?_,(KP.below (bt hbW b10)).trans hkz,((bt hbW b10).mono hBd).trans hbz⟩;rw[HE.out];simpa [ax] using hpz
theorem WL
  (w:World) (Bd g:Nat) (fc:Nat->Value) (txt:B) (A0 B1 B2 B3 B4:Option Addr) (c0 d1 d2 d3 d4:Nat) (back in' ahead:List (List Int)) (out:List Int) (calls:List Call) (x:Int) (sb si sa so:List B)
  (hp:Pr w Bd g fc txt) (hBd:Bd<=w.heap.size)
  (S0:Hid (∀w',Below w.heap.size w w'->Calls Tryd.prog 71 #[.pointer (some ⟨g,0,none⟩),.slice A0 back.length c0] w' (dW w' sb)))
  (S1:Hid (∀w',Below w.heap.size w w'->Calls Tryd.prog 71 #[.pointer (some ⟨g,0,none⟩),.slice B1 in'.length d1] w' (dW w' si)))
  (S2:Hid (∀w',Below w.heap.size w w'->Calls Tryd.prog 71 #[.pointer (some ⟨g,0,none⟩),.slice B2 ahead.length d2] w' (dW w' sa)))
  (hW:sb.length+si.length+sa.length+so.length+3<=10000000000)
  (S3:Hid (∀w',Below w.heap.size w w'->Calls Tryd.prog 72 #[.pointer (some ⟨g,0,none⟩),.slice B3 out.length d3] w' (dW w' so)))
  (W:List B) (HE:Hid (W=sb++[[47]]++si++[[47]]++sa++[[62]]++so)) (HL:Hid (txt.length+(ax dC (sb++[[47]]++si++[[47]]++sa++[[62]]++so)).length<=1000000000000/\(sb++[[47]]++si++[[47]]++sa++[[62]]++so).length<=1000000000000)):
  Calls Tryd.prog 49 #[.pointer (some ⟨g,0,none⟩),.int .i64 3,.agg #[.slice A0 back.length c0,.slice B1 in'.length d1,.slice B2 ahead.length d2,.slice B3 out.length d3,.slice B4 calls.length d4,.int .i64 x]] w
   fun e w'=>e= .returned (.tuple #[])/\Pr w' Bd g fc (txt++ax dC W)/\KP w w'/\Below Bd w w':=by
 go_enter Tryd.func49,Tryd.ntmps49
 go_wp2_with fail
 obtain⟨W0,hW0⟩:∃W0,w.alloc (.cells #[.slice A0 back.length c0,.slice B1 in'.length d1,.slice B2 ahead.length d2,.slice B3 out.length d3,.slice B4 calls.length d4,.int .i64 x] 78)=W0:=⟨_,rfl⟩
 rw[hW0];have hbW:Below w.heap.size w W0:=by rw[<-hW0];exact(agE _ _).alloc (ai _) _
 have k1:W0.cell? ⟨w.heap.size,1,none⟩=some (.slice B1 in'.length d1):=by rw[<-hW0];simp[go_sem]
 have k2:W0.cell? ⟨w.heap.size,2,none⟩=some (.slice B2 ahead.length d2):=by rw[<-hW0];simp[go_sem]
 have k3:W0.cell? ⟨w.heap.size,3,none⟩=some (.slice B3 out.length d3):=by rw[<-hW0];simp[go_sem]
 have k4:W0.cell? ⟨w.heap.size,4,none⟩=some (.slice B4 calls.length d4):=by rw[<-hW0];simp[go_sem]
 have k5:W0.cell? ⟨w.heap.size,5,none⟩=some (.int .i64 x):=by rw[<-hW0];simp[go_sem]
 have z0:=hbW.size;clear hW0;refine(S0.out _ hbW).mono ?_;rintro e w1 ⟨A1,c1,rfl,o1,b1⟩;have N1:aft W0 sb sb.length A1 c1 w1:=⟨rfl,o1,b1⟩
 have z1:=b1.size;have CV:=ae b1 k1;have dY:True:=trivial;have jo:True:=trivial;have jV:True:=trivial;have ny:True:=trivial;have mY:True:=trivial;have mW:True:=trivial;have ng:True:=trivial;have tq:True:=trivial;have oC:True:=trivial;go_wp2_with (first
  |(at_builtin;have _t:=dY;refine bC rfl (.tmp 13) (.tmp 14) rfl w1 W0.heap.size _ c1 A1 _ [47] rfl rfl o1 (by omega) (by omega) ?_;intro A2 c2 w2 p2 g2;clear _t dY;have N2:=N1.next (us:=[[47]]) (agE _ _) p2 g2;have o2:=N2.2.1;have b2:=N2.2.2;have z2:=b2.size;have CB:=ae b2 k1)
  |(go_at_call 71;have _t:=jo;refine(S1.out _ (bt hbW b2)).mono ?_;rintro e w3 ⟨A3,c3,rfl,o3,b3⟩;clear _t jo;have z3:=b3.size)
  |(at_builtin;have _t:=jV;refine dQ rfl (.tmp 16) (.tmp 20) rfl w3 W0.heap.size _ c2 A2 _ w3.heap.size A3 _ c3 si rfl rfl (own_below o2 b3) (eG o3 rfl) (by omega) (by omega) ?_;intro A4 c4 w4 p4 g4;clear _t jV;have N4:=N2.next (us:=si) b3 p4 g4;have o4:=N4.2.1;have b4:=N4.2.2;have z4:=b4.size)
  |(at_builtin;have _t:=ny;refine bC rfl (.tmp 22) (.tmp 23) rfl w4 W0.heap.size _ c4 A4 _ [47] rfl rfl o4 (by omega) (by omega) ?_;intro A5 c5 w5 p5 g5;clear _t ny;have N5:=N4.next (us:=[[47]]) (agE _ _) p5 g5;have o5:=N5.2.1;have b5:=N5.2.2;have z5:=b5.size;have DK:=ae b5 k2)
  |(go_at_call 71;have _t:=mY;refine(S2.out _ (bt hbW b5)).mono ?_;rintro e w6 ⟨A6,c6,rfl,o6,b6⟩;clear _t mY;have z6:=b6.size)
  |(at_builtin;have _t:=mW;refine dQ rfl (.tmp 25) (.tmp 29) rfl w6 W0.heap.size _ c5 A5 _ w6.heap.size A6 _ c6 sa rfl rfl (own_below o5 b6) (eG o6 rfl) (by omega) (by omega) ?_;intro A7 c7 w7 p7 g7;clear _t mW;have N7:=N5.next (us:=sa) b6 p7 g7;have o7:=N7.2.1;have b7:=N7.2.2;have z7:=b7.size)
  |(at_builtin;have _t:=ng;refine bC rfl (.tmp 31) (.tmp 32) rfl w7 W0.heap.size _ c7 A7 _ [62] rfl rfl o7 (by omega) (by omega) ?_;intro A8 c8 w8 p8 g8;clear _t ng;have N8:=N7.next (us:=[[62]]) (agE _ _) p8 g8;have o8:=N8.2.1;have b8:=N8.2.2;have z8:=b8.size;have CE:=ae b8 k3;have DI:=ae b8 k4;have Dp:=ae b8 k5)
  |(go_at_call 72;have _t:=tq;refine(S3.out _ (bt hbW b8)).mono ?_;rintro e w9 ⟨A9,c9,rfl,o9,b9⟩;clear _t tq;have z9:=b9.size)
  |(at_builtin;have _t:=oC;refine dQ rfl (.tmp 40) (.tmp 44) rfl w9 W0.heap.size _ c8 A8 _ w9.heap.size A9 _ c9 so rfl rfl (own_below o8 b9) (eG o9 rfl) (by omega) (by omega) ?_;intro A10 c10 w10 p10 g10;clear _t oC;have lG:=N8.next (us:=so) b9 p10 g10;have wJ:=lG.2.1;have b10:=lG.2.2;have z10:=b10.size)
  |(go_at_call 20;((with_reducible refine(lh _ Bd g fc txt dC A10 c10 _ _ lG.len (hp.below (bt hbW b10)) (jP wJ) HL.out).mono ?_);rintro e wz ⟨rfl,hpz,hkz,hbz⟩)))
 go_end0
 refine⟨rfl,?_,(KP.below (bt hbW b10)).trans hkz,((bt hbW b10).mono hBd).trans hbz⟩;rw[HE.out];simpa [ax] using hpz
theorem Yg
  (w:World) (Bd g:Nat) (fc:Nat->Value) (txt:B) (A0 B1 B2 B3 B4:Option Addr) (c0 d1 d2 d3 d4:Nat) (back in' ahead:List (List Int)) (out:List Int) (calls:List Call) (x:Int) (sb si sa so:List B)
  (hp:Pr w Bd g fc txt) (hBd:Bd<=w.heap.size)
  (S0:Hid (∀w',Below w.heap.size w w'->Calls Tryd.prog 71 #[.pointer (some ⟨g,0,none⟩),.slice A0 back.length c0] w' (dW w' sb)))
  (S1:Hid (∀w',Below w.heap.size w w'->Calls Tryd.prog 71 #[.pointer (some ⟨g,0,none⟩),.slice B1 in'.length d1] w' (dW w' si)))
  (S2:Hid (∀w',Below w.heap.size w w'->Calls Tryd.prog 71 #[.pointer (some ⟨g,0,none⟩),.slice B2 ahead.length d2] w' (dW w' sa)))
  (hW:sb.length+si.length+sa.length+so.length+3<=10000000000)
  (S3:Hid (∀w',Below w.heap.size w w'->Calls Tryd.prog 72 #[.pointer (some ⟨g,0,none⟩),.slice B3 out.length d3] w' (dW w' so)))
  (W:List B) (HE:Hid (W=sb++[[47]]++si++[[47]]++sa++[[62]]++so)) (HL:Hid (txt.length+(ax dC (sb++[[47]]++si++[[47]]++sa++[[62]]++so)).length<=1000000000000/\(sb++[[47]]++si++[[47]]++sa++[[62]]++so).length<=1000000000000)):
  Calls Tryd.prog 49 #[.pointer (some ⟨g,0,none⟩),.int .i64 5,.agg #[.slice A0 back.length c0,.slice B1 in'.length d1,.slice B2 ahead.length d2,.slice B3 out.length d3,.slice B4 calls.length d4,.int .i64 x]] w
   fun e w'=>e= .returned (.tuple #[])/\Pr w' Bd g fc (txt++ax dC W)/\KP w w'/\Below Bd w w':=by
 go_enter Tryd.func49,Tryd.ntmps49
 go_wp2_with fail
 obtain⟨W0,hW0⟩:∃W0,w.alloc (.cells #[.slice A0 back.length c0,.slice B1 in'.length d1,.slice B2 ahead.length d2,.slice B3 out.length d3,.slice B4 calls.length d4,.int .i64 x] 78)=W0:=⟨_,rfl⟩
 rw[hW0];have hbW:Below w.heap.size w W0:=by rw[<-hW0];exact(agE _ _).alloc (ai _) _
 have k1:W0.cell? ⟨w.heap.size,1,none⟩=some (.slice B1 in'.length d1):=by rw[<-hW0];simp[go_sem]
 have k2:W0.cell? ⟨w.heap.size,2,none⟩=some (.slice B2 ahead.length d2):=by rw[<-hW0];simp[go_sem]
 have k3:W0.cell? ⟨w.heap.size,3,none⟩=some (.slice B3 out.length d3):=by rw[<-hW0];simp[go_sem]
 have k4:W0.cell? ⟨w.heap.size,4,none⟩=some (.slice B4 calls.length d4):=by rw[<-hW0];simp[go_sem]
 have k5:W0.cell? ⟨w.heap.size,5,none⟩=some (.int .i64 x):=by rw[<-hW0];simp[go_sem]
 have z0:=hbW.size;clear hW0;refine(S0.out _ hbW).mono ?_;rintro e w1 ⟨A1,c1,rfl,o1,b1⟩;have N1:aft W0 sb sb.length A1 c1 w1:=⟨rfl,o1,b1⟩
 have z1:=b1.size;have CV:=ae b1 k1;have dY:True:=trivial;have jo:True:=trivial;have jV:True:=trivial;have ny:True:=trivial;have mY:True:=trivial;have mW:True:=trivial;have ng:True:=trivial;have tq:True:=trivial;have oC:True:=trivial;go_wp2_with (first
  |(at_builtin;have _t:=dY;refine bC rfl (.tmp 13) (.tmp 14) rfl w1 W0.heap.size _ c1 A1 _ [47] rfl rfl o1 (by omega) (by omega) ?_;intro A2 c2 w2 p2 g2;clear _t dY;have N2:=N1.next (us:=[[47]]) (agE _ _) p2 g2;have o2:=N2.2.1;have b2:=N2.2.2;have z2:=b2.size;have CB:=ae b2 k1)
  |(go_at_call 71;have _t:=jo;refine(S1.out _ (bt hbW b2)).mono ?_;rintro e w3 ⟨A3,c3,rfl,o3,b3⟩;clear _t jo;have z3:=b3.size)
  |(at_builtin;have _t:=jV;refine dQ rfl (.tmp 16) (.tmp 20) rfl w3 W0.heap.size _ c2 A2 _ w3.heap.size A3 _ c3 si rfl rfl (own_below o2 b3) (eG o3 rfl) (by omega) (by omega) ?_;intro A4 c4 w4 p4 g4;clear _t jV;have N4:=N2.next (us:=si) b3 p4 g4;have o4:=N4.2.1;have b4:=N4.2.2;have z4:=b4.size)
  |(at_builtin;have _t:=ny;refine bC rfl (.tmp 22) (.tmp 23) rfl w4 W0.heap.size _ c4 A4 _ [47] rfl rfl o4 (by omega) (by omega) ?_;intro A5 c5 w5 p5 g5;clear _t ny;have N5:=N4.next (us:=[[47]]) (agE _ _) p5 g5;have o5:=N5.2.1;have b5:=N5.2.2;have z5:=b5.size;have DK:=ae b5 k2)
  |(go_at_call 71;have _t:=mY;refine(S2.out _ (bt hbW b5)).mono ?_;rintro e w6 ⟨A6,c6,rfl,o6,b6⟩;clear _t mY;have z6:=b6.size)
  |(at_builtin;have _t:=mW;refine dQ rfl (.tmp 25) (.tmp 29) rfl w6 W0.heap.size _ c5 A5 _ w6.heap.size A6 _ c6 sa rfl rfl (own_below o5 b6) (eG o6 rfl) (by omega) (by omega) ?_;intro A7 c7 w7 p7 g7;clear _t mW;have N7:=N5.next (us:=sa) b6 p7 g7;have o7:=N7.2.1;have b7:=N7.2.2;have z7:=b7.size)
  |(at_builtin;have _t:=ng;refine bC rfl (.tmp 31) (.tmp 32) rfl w7 W0.heap.size _ c7 A7 _ [62] rfl rfl o7 (by omega) (by omega) ?_;intro A8 c8 w8 p8 g8;clear _t ng;have N8:=N7.next (us:=[[62]]) (agE _ _) p8 g8;have o8:=N8.2.1;have b8:=N8.2.2;have z8:=b8.size;have CE:=ae b8 k3;have DI:=ae b8 k4;have Dp:=ae b8 k5)
  |(go_at_call 72;have _t:=tq;refine(S3.out _ (bt hbW b8)).mono ?_;rintro e w9 ⟨A9,c9,rfl,o9,b9⟩;clear _t tq;have z9:=b9.size)
  |(at_builtin;have _t:=oC;refine dQ rfl (.tmp 40) (.tmp 44) rfl w9 W0.heap.size _ c8 A8 _ w9.heap.size A9 _ c9 so rfl rfl (own_below o8 b9) (eG o9 rfl) (by omega) (by omega) ?_;intro A10 c10 w10 p10 g10;clear _t oC;have lG:=N8.next (us:=so) b9 p10 g10;have wJ:=lG.2.1;have b10:=lG.2.2;have z10:=b10.size)
  |(go_at_call 20;((with_reducible refine(lh _ Bd g fc txt dC A10 c10 _ _ lG.len (hp.below (bt hbW b10)) (jP wJ) HL.out).mono ?_);rintro e wz ⟨rfl,hpz,hkz,hbz⟩)))
 go_end0
 refine⟨rfl,?_,(KP.below (bt hbW b10)).trans hkz,((bt hbW b10).mono hBd).trans hbz⟩;rw[HE.out];simpa [ax] using hpz
theorem WO
  (w:World) (Bd g:Nat) (fc:Nat->Value) (txt:B) (A0 B1 B2 B3 B4:Option Addr) (c0 d1 d2 d3 d4:Nat) (back in' ahead:List (List Int)) (out:List Int) (calls:List Call) (x:Int) (sb si sa so:List B)
  (hp:Pr w Bd g fc txt) (hBd:Bd<=w.heap.size)
  (S0:Hid (∀w',Below w.heap.size w w'->Calls Tryd.prog 71 #[.pointer (some ⟨g,0,none⟩),.slice A0 back.length c0] w' (dW w' sb)))
  (S1:Hid (∀w',Below w.heap.size w w'->Calls Tryd.prog 71 #[.pointer (some ⟨g,0,none⟩),.slice B1 in'.length d1] w' (dW w' si)))
  (S2:Hid (∀w',Below w.heap.size w w'->Calls Tryd.prog 71 #[.pointer (some ⟨g,0,none⟩),.slice B2 ahead.length d2] w' (dW w' sa)))
  (hW:sb.length+si.length+sa.length+so.length+3<=10000000000)
  (tx:B) (S3:Hid (∀w',Below w.heap.size w w'->Calls Tryd.prog 21 #[.int .i64 x] w' fun e w''=>e= .returned (.string ⟨tx.toArray⟩)/\Below w'.heap.size w' w''))
  (W:List B) (HE:Hid (W=sb++[[47]]++si++[[47]]++sa++[[62]]++[tx])) (HL:Hid (txt.length+(ax dC (sb++[[47]]++si++[[47]]++sa++[[62]]++[tx])).length<=1000000000000/\(sb++[[47]]++si++[[47]]++sa++[[62]]++[tx]).length<=1000000000000)):
  Calls Tryd.prog 49 #[.pointer (some ⟨g,0,none⟩),.int .i64 6,.agg #[.slice A0 back.length c0,.slice B1 in'.length d1,.slice B2 ahead.length d2,.slice B3 out.length d3,.slice B4 calls.length d4,.int .i64 x]] w
   fun e w'=>e= .returned (.tuple #[])/\Pr w' Bd g fc (txt++ax dC W)/\KP w w'/\Below Bd w w':=by
 go_enter Tryd.func49,Tryd.ntmps49
 go_wp2_with fail
 obtain⟨W0,hW0⟩:∃W0,w.alloc (.cells #[.slice A0 back.length c0,.slice B1 in'.length d1,.slice B2 ahead.length d2,.slice B3 out.length d3,.slice B4 calls.length d4,.int .i64 x] 78)=W0:=⟨_,rfl⟩
 rw[hW0];have hbW:Below w.heap.size w W0:=by rw[<-hW0];exact(agE _ _).alloc (ai _) _
 have k1:W0.cell? ⟨w.heap.size,1,none⟩=some (.slice B1 in'.length d1):=by rw[<-hW0];simp[go_sem]
 have k2:W0.cell? ⟨w.heap.size,2,none⟩=some (.slice B2 ahead.length d2):=by rw[<-hW0];simp[go_sem]
 have k3:W0.cell? ⟨w.heap.size,3,none⟩=some (.slice B3 out.length d3):=by rw[<-hW0];simp[go_sem]
 have k4:W0.cell? ⟨w.heap.size,4,none⟩=some (.slice B4 calls.length d4):=by rw[<-hW0];simp[go_sem]
 have k5:W0.cell? ⟨w.heap.size,5,none⟩=some (.int .i64 x):=by rw[<-hW0];simp[go_sem]
 have z0:=hbW.size;clear hW0;refine(S0.out _ hbW).mono ?_;rintro e w1 ⟨A1,c1,rfl,o1,b1⟩;have N1:aft W0 sb sb.length A1 c1 w1:=⟨rfl,o1,b1⟩
 have z1:=b1.size;have CV:=ae b1 k1;have dY:True:=trivial;have jo:True:=trivial;have jV:True:=trivial;have ny:True:=trivial;have mY:True:=trivial;have mW:True:=trivial;have ng:True:=trivial;have tq:True:=trivial;have oC:True:=trivial;go_wp2_with (first
  |(at_builtin;have _t:=dY;refine bC rfl (.tmp 13) (.tmp 14) rfl w1 W0.heap.size _ c1 A1 _ [47] rfl rfl o1 (by omega) (by omega) ?_;intro A2 c2 w2 p2 g2;clear _t dY;have N2:=N1.next (us:=[[47]]) (agE _ _) p2 g2;have o2:=N2.2.1;have b2:=N2.2.2;have z2:=b2.size;have CB:=ae b2 k1)
  |(go_at_call 71;have _t:=jo;refine(S1.out _ (bt hbW b2)).mono ?_;rintro e w3 ⟨A3,c3,rfl,o3,b3⟩;clear _t jo;have z3:=b3.size)
  |(at_builtin;have _t:=jV;refine dQ rfl (.tmp 16) (.tmp 20) rfl w3 W0.heap.size _ c2 A2 _ w3.heap.size A3 _ c3 si rfl rfl (own_below o2 b3) (eG o3 rfl) (by omega) (by omega) ?_;intro A4 c4 w4 p4 g4;clear _t jV;have N4:=N2.next (us:=si) b3 p4 g4;have o4:=N4.2.1;have b4:=N4.2.2;have z4:=b4.size)
  |(at_builtin;have _t:=ny;refine bC rfl (.tmp 22) (.tmp 23) rfl w4 W0.heap.size _ c4 A4 _ [47] rfl rfl o4 (by omega) (by omega) ?_;intro A5 c5 w5 p5 g5;clear _t ny;have N5:=N4.next (us:=[[47]]) (agE _ _) p5 g5;have o5:=N5.2.1;have b5:=N5.2.2;have z5:=b5.size;have DK:=ae b5 k2)
  |(go_at_call 71;have _t:=mY;refine(S2.out _ (bt hbW b5)).mono ?_;rintro e w6 ⟨A6,c6,rfl,o6,b6⟩;clear _t mY;have z6:=b6.size)
  |(at_builtin;have _t:=mW;refine dQ rfl (.tmp 25) (.tmp 29) rfl w6 W0.heap.size _ c5 A5 _ w6.heap.size A6 _ c6 sa rfl rfl (own_below o5 b6) (eG o6 rfl) (by omega) (by omega) ?_;intro A7 c7 w7 p7 g7;clear _t mW;have N7:=N5.next (us:=sa) b6 p7 g7;have o7:=N7.2.1;have b7:=N7.2.2;have z7:=b7.size)
  |(at_builtin;have _t:=ng;refine bC rfl (.tmp 31) (.tmp 32) rfl w7 W0.heap.size _ c7 A7 _ [62] rfl rfl o7 (by omega) (by omega) ?_;intro A8 c8 w8 p8 g8;clear _t ng;have N8:=N7.next (us:=[[62]]) (agE _ _) p8 g8;have o8:=N8.2.1;have b8:=N8.2.2;have z8:=b8.size;have CE:=ae b8 k3;have DI:=ae b8 k4;have Dp:=ae b8 k5)
  |(go_at_call 21;refine(S3.out _ (bt hbW b8)).mono ?_;rintro e w9 ⟨rfl,b9⟩;have z9:=b9.size)
  |(at_builtin;refine bC rfl (.tmp 69) (.tmp 73) rfl w9 W0.heap.size _ c8 A8 _ tx rfl rfl (own_below o8 b9) (by omega) (by omega) ?_;intro A10 c10 w10 p10 g10;have lG:=N8.next (us:=[tx]) b9 p10 g10;have wJ:=lG.2.1;have b10:=lG.2.2;have z10:=b10.size)
  |(go_at_call 20;((with_reducible refine(lh _ Bd g fc txt dC A10 c10 _ _ lG.len (hp.below (bt hbW b10)) (jP wJ) HL.out).mono ?_);rintro e wz ⟨rfl,hpz,hkz,hbz⟩)))
 go_end0
 refine⟨rfl,?_,(KP.below (bt hbW b10)).trans hkz,((bt hbW b10).mono hBd).trans hbz⟩;rw[HE.out];simpa [ax] using hpz
theorem NU
  (w:World) (Bd g:Nat) (fc:Nat->Value) (txt:B) (A0 B1 B2 B3 B4:Option Addr) (c0 d1 d2 d3 d4:Nat) (back in' ahead:List (List Int)) (out:List Int) (calls:List Call) (x:Int) (sb si sa so:List B)
  (hp:Pr w Bd g fc txt) (hBd:Bd<=w.heap.size)
  (S0:Hid (∀w',Below w.heap.size w w'->Calls Tryd.prog 71 #[.pointer (some ⟨g,0,none⟩),.slice A0 back.length c0] w' (dW w' sb)))
  (S1:Hid (∀w',Below w.heap.size w w'->Calls Tryd.prog 71 #[.pointer (some ⟨g,0,none⟩),.slice B1 in'.length d1] w' (dW w' si)))
  (S2:Hid (∀w',Below w.heap.size w w'->Calls Tryd.prog 71 #[.pointer (some ⟨g,0,none⟩),.slice B2 ahead.length d2] w' (dW w' sa)))
  (hW:sb.length+si.length+sa.length+so.length+3<=10000000000)
  (kind:Int) (h1:(kind==1)=false) (h2:(kind==2)=false) (h3:(kind==3)=false) (h4:(kind==4)=false) (h5:(kind==5)=false) (h6:(kind==6)=false)
  (W:List B) (HE:Hid (W=sb++[[47]]++si++[[47]]++sa++[[62]])) (HL:Hid (txt.length+(ax dC (sb++[[47]]++si++[[47]]++sa++[[62]])).length<=1000000000000/\(sb++[[47]]++si++[[47]]++sa++[[62]]).length<=1000000000000)):
  Calls Tryd.prog 49 #[.pointer (some ⟨g,0,none⟩),.int .i64 kind,.agg #[.slice A0 back.length c0,.slice B1 in'.length d1,.slice B2 ahead.length d2,.slice B3 out.length d3,.slice B4 calls.length d4,.int .i64 x]] w
   fun e w'=>e= .returned (.tuple #[])/\Pr w' Bd g fc (txt++ax dC W)/\KP w w'/\Below Bd w w':=by
 go_enter Tryd.func49,Tryd.ntmps49
 go_wp2_with fail
 obtain⟨W0,hW0⟩:∃W0,w.alloc (.cells #[.slice A0 back.length c0,.slice B1 in'.length d1,.slice B2 ahead.length d2,.slice B3 out.length d3,.slice B4 calls.length d4,.int .i64 x] 78)=W0:=⟨_,rfl⟩
 rw[hW0];have hbW:Below w.heap.size w W0:=by rw[<-hW0];exact(agE _ _).alloc (ai _) _
 have k1:W0.cell? ⟨w.heap.size,1,none⟩=some (.slice B1 in'.length d1):=by rw[<-hW0];simp[go_sem]
 have k2:W0.cell? ⟨w.heap.size,2,none⟩=some (.slice B2 ahead.length d2):=by rw[<-hW0];simp[go_sem]
 have k3:W0.cell? ⟨w.heap.size,3,none⟩=some (.slice B3 out.length d3):=by rw[<-hW0];simp[go_sem]
 have k4:W0.cell? ⟨w.heap.size,4,none⟩=some (.slice B4 calls.length d4):=by rw[<-hW0];simp[go_sem]
 have k5:W0.cell? ⟨w.heap.size,5,none⟩=some (.int .i64 x):=by rw[<-hW0];simp[go_sem]
 have z0:=hbW.size;clear hW0;refine(S0.out _ hbW).mono ?_;rintro e w1 ⟨A1,c1,rfl,o1,b1⟩;have N1:aft W0 sb sb.length A1 c1 w1:=⟨rfl,o1,b1⟩
 have z1:=b1.size;have CV:=ae b1 k1;have dY:True:=trivial;have jo:True:=trivial;have jV:True:=trivial;have ny:True:=trivial;have mY:True:=trivial;have mW:True:=trivial;have ng:True:=trivial;have tq:True:=trivial;have oC:True:=trivial;go_wp2_with (first
  |(at_builtin;have _t:=dY;refine bC rfl (.tmp 13) (.tmp 14) rfl w1 W0.heap.size _ c1 A1 _ [47] rfl rfl o1 (by omega) (by omega) ?_;intro A2 c2 w2 p2 g2;clear _t dY;have N2:=N1.next (us:=[[47]]) (agE _ _) p2 g2;have o2:=N2.2.1;have b2:=N2.2.2;have z2:=b2.size;have CB:=ae b2 k1)
  |(go_at_call 71;have _t:=jo;refine(S1.out _ (bt hbW b2)).mono ?_;rintro e w3 ⟨A3,c3,rfl,o3,b3⟩;clear _t jo;have z3:=b3.size)
  |(at_builtin;have _t:=jV;refine dQ rfl (.tmp 16) (.tmp 20) rfl w3 W0.heap.size _ c2 A2 _ w3.heap.size A3 _ c3 si rfl rfl (own_below o2 b3) (eG o3 rfl) (by omega) (by omega) ?_;intro A4 c4 w4 p4 g4;clear _t jV;have N4:=N2.next (us:=si) b3 p4 g4;have o4:=N4.2.1;have b4:=N4.2.2;have z4:=b4.size)
  |(at_builtin;have _t:=ny;refine bC rfl (.tmp 22) (.tmp 23) rfl w4 W0.heap.size _ c4 A4 _ [47] rfl rfl o4 (by omega) (by omega) ?_;intro A5 c5 w5 p5 g5;clear _t ny;have N5:=N4.next (us:=[[47]]) (agE _ _) p5 g5;have o5:=N5.2.1;have b5:=N5.2.2;have z5:=b5.size;have DK:=ae b5 k2)
  |(go_at_call 71;have _t:=mY;refine(S2.out _ (bt hbW b5)).mono ?_;rintro e w6 ⟨A6,c6,rfl,o6,b6⟩;clear _t mY;have z6:=b6.size)
  |(at_builtin;have _t:=mW;refine dQ rfl (.tmp 25) (.tmp 29) rfl w6 W0.heap.size _ c5 A5 _ w6.heap.size A6 _ c6 sa rfl rfl (own_below o5 b6) (eG o6 rfl) (by omega) (by omega) ?_;intro A7 c7 w7 p7 g7;clear _t mW;have N7:=N5.next (us:=sa) b6 p7 g7;have o7:=N7.2.1;have b7:=N7.2.2;have z7:=b7.size)
  |(at_builtin;have _t:=ng;refine bC rfl (.tmp 31) (.tmp 32) rfl w7 W0.heap.size _ c7 A7 _ [62] rfl rfl o7 (by omega) (by omega) ?_;intro A8 c8 w8 p8 g8;clear _t ng;have N8:=N7.next (us:=[[62]]) (agE _ _) p8 g8;have o8:=N8.2.1;have b8:=N8.2.2;have z8:=b8.size;have CE:=ae b8 k3;have DI:=ae b8 k4;have Dp:=ae b8 k5)
  |(go_at_call 20;((with_reducible refine(lh _ Bd g fc txt dC A8 c8 _ _ N8.len (hp.below (bt hbW b8)) (jP o8) HL.out).mono ?_);rintro e wz ⟨rfl,hpz,hkz,hbz⟩)))
 go_end0
 refine⟨rfl,?_,(KP.below (bt hbW b8)).trans hkz,((bt hbW b8).mono hBd).trans hbz⟩;rw[HE.out];simpa [ax] using hpz
theorem Zg
  (w:World) (Bd g:Nat) (fc:Nat->Value) (txt:B) (A0 B1 B2 B3 B4:Option Addr) (c0 d1 d2 d3 d4:Nat) (back in' ahead:List (List Int)) (out:List Int) (calls:List Call) (x:Int) (sb si sa so:List B)
  (hp:Pr w Bd g fc txt) (hBd:Bd<=w.heap.size)
  (S0:Hid (∀w',Below w.heap.size w w'->Calls Tryd.prog 71 #[.pointer (some ⟨g,0,none⟩),.slice A0 back.length c0] w' (dW w' sb)))
  (S1:Hid (∀w',Below w.heap.size w w'->Calls Tryd.prog 71 #[.pointer (some ⟨g,0,none⟩),.slice B1 in'.length d1] w' (dW w' si)))
  (S2:Hid (∀w',Below w.heap.size w w'->Calls Tryd.prog 71 #[.pointer (some ⟨g,0,none⟩),.slice B2 ahead.length d2] w' (dW w' sa)))
  (hW:sb.length+si.length+sa.length+so.length+3<=10000000000)
  (hT:Tabs w) (hC:Sl aff 2 w (FT w) B4 calls) (hcl:calls.length<=so.length) (HS:Hid (so=calls.map (fun c=>af c.at'++58::af c.lookup)))
  (W:List B) (HE:Hid (W=sb++[[47]]++si++[[47]]++sa++[[62]]++so)) (HL:Hid (txt.length+(ax dC (sb++[[47]]++si++[[47]]++sa++[[62]]++so)).length<=1000000000000/\(sb++[[47]]++si++[[47]]++sa++[[62]]++so).length<=1000000000000)):
  Calls Tryd.prog 49 #[.pointer (some ⟨g,0,none⟩),.int .i64 4,.agg #[.slice A0 back.length c0,.slice B1 in'.length d1,.slice B2 ahead.length d2,.slice B3 out.length d3,.slice B4 calls.length d4,.int .i64 x]] w
   fun e w'=>e= .returned (.tuple #[])/\Pr w' Bd g fc (txt++ax dC W)/\KP w w'/\Below Bd w w':=by
 go_enter Tryd.func49,Tryd.ntmps49
 go_wp2_with fail
 obtain⟨W0,hW0⟩:∃W0,w.alloc (.cells #[.slice A0 back.length c0,.slice B1 in'.length d1,.slice B2 ahead.length d2,.slice B3 out.length d3,.slice B4 calls.length d4,.int .i64 x] 78)=W0:=⟨_,rfl⟩
 rw[hW0];have hbW:Below w.heap.size w W0:=by rw[<-hW0];exact(agE _ _).alloc (ai _) _
 have k1:W0.cell? ⟨w.heap.size,1,none⟩=some (.slice B1 in'.length d1):=by rw[<-hW0];simp[go_sem]
 have k2:W0.cell? ⟨w.heap.size,2,none⟩=some (.slice B2 ahead.length d2):=by rw[<-hW0];simp[go_sem]
 have k3:W0.cell? ⟨w.heap.size,3,none⟩=some (.slice B3 out.length d3):=by rw[<-hW0];simp[go_sem]
 have k4:W0.cell? ⟨w.heap.size,4,none⟩=some (.slice B4 calls.length d4):=by rw[<-hW0];simp[go_sem]
 have k5:W0.cell? ⟨w.heap.size,5,none⟩=some (.int .i64 x):=by rw[<-hW0];simp[go_sem]
 have z0:=hbW.size;clear hW0;refine(S0.out _ hbW).mono ?_;rintro e w1 ⟨A1,c1,rfl,o1,b1⟩;have N1:aft W0 sb sb.length A1 c1 w1:=⟨rfl,o1,b1⟩
 have z1:=b1.size;have CV:=ae b1 k1;have dY:True:=trivial;have jo:True:=trivial;have jV:True:=trivial;have ny:True:=trivial;have mY:True:=trivial;have mW:True:=trivial;have ng:True:=trivial;have tq:True:=trivial;have oC:True:=trivial;go_wp2_with (first
  |(at_builtin;have _t:=dY;refine bC rfl (.tmp 13) (.tmp 14) rfl w1 W0.heap.size _ c1 A1 _ [47] rfl rfl o1 (by omega) (by omega) ?_;intro A2 c2 w2 p2 g2;clear _t dY;have N2:=N1.next (us:=[[47]]) (agE _ _) p2 g2;have o2:=N2.2.1;have b2:=N2.2.2;have z2:=b2.size;have CB:=ae b2 k1)
  |(go_at_call 71;have _t:=jo;refine(S1.out _ (bt hbW b2)).mono ?_;rintro e w3 ⟨A3,c3,rfl,o3,b3⟩;clear _t jo;have z3:=b3.size)
  |(at_builtin;have _t:=jV;refine dQ rfl (.tmp 16) (.tmp 20) rfl w3 W0.heap.size _ c2 A2 _ w3.heap.size A3 _ c3 si rfl rfl (own_below o2 b3) (eG o3 rfl) (by omega) (by omega) ?_;intro A4 c4 w4 p4 g4;clear _t jV;have N4:=N2.next (us:=si) b3 p4 g4;have o4:=N4.2.1;have b4:=N4.2.2;have z4:=b4.size)
  |(at_builtin;have _t:=ny;refine bC rfl (.tmp 22) (.tmp 23) rfl w4 W0.heap.size _ c4 A4 _ [47] rfl rfl o4 (by omega) (by omega) ?_;intro A5 c5 w5 p5 g5;clear _t ny;have N5:=N4.next (us:=[[47]]) (agE _ _) p5 g5;have o5:=N5.2.1;have b5:=N5.2.2;have z5:=b5.size;have DK:=ae b5 k2)
  |(go_at_call 71;have _t:=mY;refine(S2.out _ (bt hbW b5)).mono ?_;rintro e w6 ⟨A6,c6,rfl,o6,b6⟩;clear _t mY;have z6:=b6.size)
  |(at_builtin;have _t:=mW;refine dQ rfl (.tmp 25) (.tmp 29) rfl w6 W0.heap.size _ c5 A5 _ w6.heap.size A6 _ c6 sa rfl rfl (own_below o5 b6) (eG o6 rfl) (by omega) (by omega) ?_;intro A7 c7 w7 p7 g7;clear _t mW;have N7:=N5.next (us:=sa) b6 p7 g7;have o7:=N7.2.1;have b7:=N7.2.2;have z7:=b7.size)
  |(at_builtin;have _t:=ng;refine bC rfl (.tmp 31) (.tmp 32) rfl w7 W0.heap.size _ c7 A7 _ [62] rfl rfl o7 (by omega) (by omega) ?_;intro A8 c8 w8 p8 g8;clear _t ng;have N8:=N7.next (us:=[[62]]) (agE _ _) p8 g8;have o8:=N8.2.1;have b8:=N8.2.2;have z8:=b8.size;have CE:=ae b8 k3;have DI:=ae b8 k4;have Dp:=ae b8 k5))
 obtain⟨w8',Qp⟩:∃w8',w8'=w8:=⟨_,rfl⟩
 have Xo:=N8;rw[<-Qp] at Xo;go_loopw [6,51] (fun v i wr=>∃k n A c,k<=calls.length/\i= .int .i64 (k:Nat)/\v= .slice A n c/\n<=sb.length+1+si.length+1+sa.length+1+k/\aft W0 (sb++[[47]]++si++[[47]]++sa++[[62]]++(calls.take k).map (fun c=>af c.at'++58::af c.lookup)) n A c wr) (fun _ i _=>calls.length - (intOf i).toNat)
 case atStart=>exact⟨0,_,A8,c8,nz _,rfl,rfl,by omega,by simpa using N8⟩
 case round=>
  obtain⟨k,n,A9,c9,hk,rfl,rfl,hnn,N9⟩:=hrel;have b9:=N9.2.2;have o9:=N9.2.1;have z9:=b9.size;have GZ:=bt hbW b9;by_cases hlt:k<calls.length
  ·obtain⟨b,o,x',rfl,-,hx,e0,e1,r0,r1⟩:=((KP.below GZ).sl aff.ok hC).call hlt;have HS2:=hd0 (kE (fun c:Call=>af c.at'++58::af c.lookup) calls k x' hx.out);generalize hws:sb++[[47]]++si++[[47]]++sa++[[62]]++(calls.take k).map (fun c=>af c.at'++58::af c.lookup)=ws at*
   have Hws:=hd0 hws;obtain⟨x0,x1⟩:=x';dsimp only at e0 e1 r0 r1;have hT1:=hT.all GZ;have n0:=hd0 (fun w hT=>aK w x0 hT r0);have n1:=hd0 (fun w hT=>aK w x1 hT r1);have l0:=oL r0;have l1:=oL r1;generalize af x0=t0 at*
   generalize af x1=t1 at*
   obtain⟨u1,a1,m1,U1⟩:=qV t0 [58] (by omega) (by simp);obtain⟨u2,a2,m2,U2⟩:=qV u1 t1 (by simp only[aV,ln] at m1;omega) (by omega);simp only[aV,ln] at m1;have hne:Hid (some wr.heap.size≠(Value.slice A9 n c9).ownBlock):=fun e=>by have:=(o9.lt _ e.symm).2;omega
   have hll:n+1<=1000000000000:=by omega
   clear hx hws r0 r1 Qp Xo;go_wp2_with fail
   obtain⟨W1,hW1⟩:∃W1,wr.alloc (.cells #[.int .i64 x0,.int .i64 x1] 80)=W1:=⟨_,rfl⟩
   rw[hW1];have hb0:Below wr.heap.size wr W1:=by rw[<-hW1];exact(agE _ _).alloc (ai _) _
   have hT2:=hT1.all hb0;have WW:W1.cell? ⟨wr.heap.size,0,none⟩=some (.int .i64 x0):=by rw[<-hW1];simp[go_sem]
   have XI:W1.cell? ⟨wr.heap.size,1,none⟩=some (.int .i64 x1):=by rw[<-hW1];simp[go_sem]
   have Hy:=hb0.size;clear hW1 e0 e1
   go_region_held3 (fun w'=>w'.cell? ⟨wr.heap.size,0,none⟩=some (.int .i64 x0)/\w'.cell? ⟨wr.heap.size,1,none⟩=some (.int .i64 x1))
    (first
     |exact⟨nX hg4 (ae hc2 WW) hne.out,nX hg4 (ae hc2 XI) hne.out⟩
     |exact⟨ae hc2 WW,ae hc2 XI⟩
     |exact⟨ae hc1 WW,ae hc1 XI⟩
     |go_keep)
    (first
     |(go_at_call 21;refine(n0.out _ hT2.drew).mono ?_;rintro e v1 ⟨rfl,hb1⟩;have hc1:=iU hb1;have y1:=hc1.size)
     |(go_at_call 21;refine(n1.out _ (hT2.all hc1)).mono ?_;rintro e v2 ⟨rfl,hb2⟩;have hc2:=bt hc1 hb2;have y2:=hc2.size)
     |(refine EI (by rfl) (.tmp 55) (.tmp 64) (by rfl) v2 v2.heap.size rfl W0.heap.size n c9 1 A9 _ [u2] rfl (by go_simp) (by go_simp) (own_below o9 (bt hb0 hc2)) hll (nt z9 (nt Hy y2)) ?_;intro A10 c10 w10 p10 hg4))
   have lG:=N9.next (us:=[u2]) (bt hb0 hc2) p10 hg4;go_wp2;go_roundw
   case rel=>refine⟨k+1,n+1,A10,c10,by omega,by simp,rfl,by omega,?_⟩;rw[<-Hws.out] at lG;rw[HS2.out];rw[U2.out,U1.out] at lG;simpa using lG
   case measure=>simp[intOf];omega
  obtain rfl:k=calls.length:=by omega
  rw[agK,<-HS.out] at N9;have b10:=N9.2.2;have wJ:=N9.2.1;have hn9:=hd0 N9.1;clear Qp Xo o9 b9;go_wp2_with (go_at_call 20;((with_reducible refine(lh _ Bd g fc txt dC A9 c9 _ _ hn9.out (hp.below GZ) (jP wJ) HL.out).mono ?_);rintro e wz ⟨rfl,hpz,hkz,hbz⟩))
  go_end0
  refine⟨rfl,?_,(KP.below GZ).trans hkz,(GZ.mono hBd).trans hbz⟩;rw[HE.out];simpa [ax] using hpz
end
section
open Go.RowKit
def jS (i:Nat):B:=if i=0 then [46,110,111,116,100,101,102] else [103,(97+i).toUInt8]
theorem ZE:∀i:Fin 10,nameB (jS i.val)=true:=by decide
theorem QP:∀k:Fin 11,((List.range k.val).map jS).Nodup:=by decide
def xx (i:Nat):B:=[97,120,(97+i).toUInt8]
theorem Y0:∀i:Fin 3,nameB (xx i.val)=true:=by decide
structure afy (k:Nat)(p:List Pt)(e:List Int):Prop where
 pts:∀x∈p,N9 x.x/\N9 x.y
 ends:gU 0 e p.length
 few:p.length<=5*k/\e.length=k
theorem Jn (es:List Int):∀(fr n k:Nat),gU fr es n->1<=k->gU fr (es++[((n+k:Nat):Int) - 1]) (n+k):=by
 induction es with
 |nil=>intro fr n k h hk;have h:fr=n:=h;refine⟨by omega,by omega,?_⟩;show _=_;omega
 |cons e r ih=>intro fr n k h hk;obtain⟨a,b,c⟩:=h;exact⟨a,by omega,ih _ _ _ c hk⟩
theorem afy.nil:afy 0 [] []:=⟨by simp,rfl,by simp⟩
theorem afy.snoc {k:Nat}{p:List Pt}{e:List Int}(h:afy k p e){q:List Pt}(hq:∀x∈q,N9 x.x/\N9 x.y)(h1:1<=q.length)(h5:q.length<=5){z:Int}(hz:z=((p.length+q.length:Nat):Int) - 1):afy (k+1) (p++q) (e++[z]):=by
 subst hz;refine⟨fun x hx=> ?_,?_,?_⟩
 ·rw[agJ] at hx;rcases hx with hx|hx
  ·exact h.pts x hx
  exact hq x hx
 ·rw[la];exact Jn _ _ _ _ h.ends h1
 have:=h.few;simp only[la,aV,ln];omega
structure afv (n:Nat)(s:List Int):Prop where
 set:OkS n s
 few:s.length<=4
theorem afv.one {n:Nat}{a:Int}(h:In n a):afv n [a]:=⟨⟨by simp,fun x hx=>by simp only[agF] at hx;subst hx;exact h⟩,by simp⟩
theorem afv.snoc {n:Nat}{s:List Int}(h:afv n s){a:Int}(ha:In n a)(hlt:∀x∈s,x<a)(hl:s.length<4):afv n (s++[a]):=by
 refine⟨⟨?_,fun x hx=> ?_⟩,by simp;omega⟩
 ·rw[List.pairwise_append];exact⟨h.set.1,by simp,fun x hx y hy=>by simp only[agF] at hy;subst hy;exact hlt x hx⟩
 rw[agJ,agF] at hx;rcases hx with hx|rfl
 ·exact h.set.2 x hx
 exact ha
structure aeZ (n k:Nat)(l:List (List Int)):Prop where
 sets:∀s∈l,afv n s
 few:l.length<=k
theorem aeZ.nil (n k:Nat):aeZ n k []:=⟨by simp,nz _⟩
theorem aeZ.app {n k j:Nat}{a b:List (List Int)}(h:aeZ n k a)(g:aeZ n j b):aeZ n (k+j) (a++b):=by
 refine⟨fun s hs=> ?_,by have:=h.few;have:=g.few;rw[la];omega⟩;rw[agJ] at hs;rcases hs with hs|hs
 ·exact h.sets s hs
 exact g.sets s hs
theorem aeZ.one {n:Nat}{s:List Int}(h:afv n s):aeZ n 1 [s]:=⟨fun x hx=>by simp only[agF] at hx;subst hx;exact h,by simp⟩
theorem aeZ.mono {n k j:Nat}{a:List (List Int)}(h:aeZ n k a)(hk:k<=j):aeZ n j a:=⟨h.sets,nt h.few hk⟩
structure afa (n:Nat)(kind:Int)(r:ae4):Prop where
 right:OkR n kind r
 small:SmR r
theorem afa.mk' {n:Nat}{kind:Int}{r:ae4}(hb:aeZ n 3 r.back)(hi:aeZ n 3 r.in')(ha:aeZ n 3 r.ahead)(ho:(∀x∈r.out,In n x)/\r.out.length<=4)(hc:(∀c∈r.calls,N9 c.at'/\N9 c.lookup)/\r.calls.length<=2)(hx:N9 r.x)
  (h1:kind=1\/kind=5->∃s,r.in'=[s]/\r.out.length=s.length) (h2:kind=4\/6<=kind->r.out=[]) (h3:kind≠4->r.calls=[]) (h4:kind≠6->r.x=0):afa n kind r:=
 ⟨{back:=fun s hs=>(hb.sets s hs).set,in':=fun s hs=>(hi.sets s hs).set,ahead:=fun s hs=>(ha.sets s hs).set,out:=ho.1,calls:=hc.1,x:=hx,one:=h1,outs:=h2,noC:=h3,noX:=h4},
 {rows:=⟨hb.few,hi.few,ha.few⟩,sets:=⟨fun s hs=>(hb.sets s hs).few,fun s hs=>(hi.sets s hs).few,fun s hs=>(ha.sets s hs).few⟩,outs:=⟨ho.2,hc.2⟩}⟩
structure af5 (n:Nat)(l:Lookup):Prop where
 kind:1<=l.kind/\l.kind<=8
 rules:∀r∈l.rules,afa n l.kind r
 few:l.rules.length<=3
structure afB (i:Nat)(g:aeS):Prop where
 name:g.name=jS i
 right:OkG 2 g
 small:SmG g
theorem OkG.mono {n k:Nat}{g:aeS}(h:OkG n g)(hk:n<=k):OkG k g:=
 have hp:∀p∈g.parts,In k p.aeT/\N9 p.x/\N9 p.y:=fun p hp=>by
  have h1:=h.parts p hp;exact⟨⟨h1.1.1,by have:=h1.1.2;omega⟩,h1.2⟩
 {h with parts:=hp}
structure afM (f:Fnt):Prop where
 right:afs f
 small:SmF f
 two:0<f.aeN.length
theorem OH {gs:List aeS}(h:∀i g,gs[i]? =some g->afB i g):gs.map (·.name)=(List.range gs.length).map jS:=by
 apply List.ext_getElem?;intro i;rw[ag5,ag5];by_cases hi:i<gs.length
 ·have e:=agH hi;rw[e,List.getElem?_range hi];simp only[Option.map_some,ag3];exact(h i _ e).name
 rw[ag2 (by omega),ag2 (by rw[List.length_range];omega)];rfl
theorem UW {f:Fnt}(hu:N9 f.unit)(ha:(∀a∈f.aeP,nameB a.name=true/\N9 a.min'/\N9 a.afk/\N9 a.max')/\f.aeP.length<=2)
  (hr:(∀r∈f.regions,(∀t∈r.ae0,N9 t.start/\N9 t.peak/\N9 t.stop)/\r.ae0.length<=2)/\f.regions.length<=3)
  (hc:(∀n∈f.cvt,N9 n)/\f.cvt.length<=3) (hf:(∀p∈f.funcs,jr p/\p.length<=60)/\f.funcs.length<=2)
  (hg:(∀i g,f.aeN[i]? =some g->afB i g)/\2<=f.aeN.length/\f.aeN.length<=10)
  (hch:(∀c∈f.chars,N9 c.rune/\In f.aeN.length c.aeT)/\f.chars.length<=16) (hl:(∀l∈f.aeO,af5 f.aeN.length l)/\f.aeO.length<=6)
  (hft:(∀x∈f.features,(nameB x.name=true/\∀n∈x.aeO,N9 n)/\x.aeO.length<=6)/\f.features.length<=8):afM f:=by
 obtain⟨hg1,hg2,hg3⟩:=hg;have hgm:∀g∈f.aeN,∃i,afB i g:=fun g hg=>by
  obtain⟨i,hi⟩:=agX.1 hg;exact⟨i,hg1 i g hi⟩
 refine⟨{unit:=hu,aeP:=ha.1,regs:=fun r h=>(hr.1 r h).1,cvt:=hc.1,funcs:=fun p h=>(hf.1 p h).1,apart:= ?_,aeN:=fun g h=> ?_,chars:=hch.1,aeO:=fun l h=> ?_,aeX:=fun x h=>(hft.1 x h).1,few:=by omega},{aeN:=⟨hg3,fun g h=> ?_⟩,chars:=hch.2,aeO:=⟨hl.2,fun l h=>⟨(hl.1 l h).few,fun r hr=>((hl.1 l h).rules r hr).small⟩⟩,aeX:=⟨hft.2,fun x h=>(hft.1 x h).2⟩,aeP:=ha.2,regs:=⟨hr.2,fun r h=>(hr.1 r h).2⟩,funcs:=⟨hf.2,fun p h=>(hf.1 p h).2⟩,cvt:=hc.2},by omega⟩
 ·rw[OH hg1];exact QP ⟨f.aeN.length,by omega⟩
 ·obtain⟨i,hi⟩:=hgm g h;exact hi.right.mono hg2
 ·have:=hl.1 l h;exact⟨this.kind.1,this.kind.2,fun r hr=>(this.rules r hr).right⟩
 obtain⟨i,hi⟩:=hgm g h;exact hi.small
end
end Go.Proofs.YtkijckccfookeaaDoor
