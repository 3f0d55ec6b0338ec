/- Lemmas. -/
import Derived.Test.YtkijckccfookeaaGreatDoorV10
set_option linter.unusedVariables false
set_option linter.unusedSimpArgs false
set_option maxRecDepth 100000
set_option maxHeartbeats 32000000
namespace Go.Proofs.YtkijckccfookeaaGreatDoor
section
open Go.RowKit Go.Sort
theorem aiG.len {w:World}{ws:List B}{n:Nat}{A:Option Addr}{c:Nat}{wr:World}(h:aiG w ws n A c wr):n=ws.length:=h.1
theorem nH (w:World)(Bd g:Nat)(fc:Nat->Value)(txt first:B)(A:Option Addr)(c n:Nat)(ws:List B)(hn:n=ws.length)(h:Pr w Bd g fc txt)(hA:Sl ai4 1 w (FT w) A ws)(hlen:txt.length+(au first ws).length<=1000000000000/\ws.length<=1000000000000):
  Calls Tryz.prog 41 #[.pointer (some ⟨g,0,none⟩),.string ⟨first.toArray⟩,.slice A n c] w fun e w'=>e= .returned (.tuple #[])/\Pr w' Bd g fc (txt++au first ws)/\KP w w'/\Below Bd w w':=by
 subst hn;exact BZ w Bd g fc txt first A c ws h hA hlen.1 hlen.2
theorem abk
  (w:World) (Bd g:Nat) (fc:Nat->Value) (txt:B) (A0 B1 B2 B3 B4:Option Addr) (c0 d1 d2 d3 d4:Nat) (back in' ahead:List (List Int)) (out:List Int) (calls:List Call) (x:Int) (sb si sa so:List B)
  (hp:Pr w Bd g fc txt) (hBd:Bd<=w.heap.size)
  (S0:Hid (∀w',Below w.heap.size w w'->Calls Tryz.prog 146 #[.pointer (some ⟨g,0,none⟩),.slice A0 back.length c0] w' (fM w' sb)))
  (S1:Hid (∀w',Below w.heap.size w w'->Calls Tryz.prog 146 #[.pointer (some ⟨g,0,none⟩),.slice B1 in'.length d1] w' (fM w' si)))
  (S2:Hid (∀w',Below w.heap.size w w'->Calls Tryz.prog 146 #[.pointer (some ⟨g,0,none⟩),.slice B2 ahead.length d2] w' (fM w' sa)))
  (hW:sb.length+si.length+sa.length+so.length+3<=10000000000)
  (S3:Hid (∀w',Below w.heap.size w w'->Calls Tryz.prog 147 #[.pointer (some ⟨g,0,none⟩),.slice B3 out.length d3] w' (fM w' so)))
  (W:List B) (HE:Hid (W=sb++[[47]]++si++[[47]]++sa++[[62]]++so)) (HL:Hid (txt.length+(au dF (sb++[[47]]++si++[[47]]++sa++[[62]]++so)).length<=1000000000000/\(sb++[[47]]++si++[[47]]++sa++[[62]]++so).length<=1000000000000)):
  Calls Tryz.prog 98 #[.pointer (some ⟨g,0,none⟩),.int .i64 1,.agg #[.slice A0 back.length c0,.slice B1 in'.length d1,.slice B2 ahead.length d2,.slice B3 out.length d3,.slice B4 calls.length d4,.int .i64 x]] w
   fun e w'=>e= .returned (.tuple #[])/\Pr w' Bd g fc (txt++au dF W)/\KP w w'/\Below Bd w w':=by
 go_enter Tryz.func98,Tryz.ntmps98
 go_wp2_with fail
 obtain⟨W0,hW0⟩:∃W0,w.alloc (.cells #[.slice A0 back.length c0,.slice B1 in'.length d1,.slice B2 ahead.length d2,.slice B3 out.length d3,.slice B4 calls.length d4,.int .i64 x] 76)=W0:=⟨_,rfl⟩
 rw[hW0];have hbW:Below w.heap.size w W0:=by rw[<-hW0];exact(akl _ _).alloc (nr _) _
 have k1:W0.cell? ⟨w.heap.size,1,none⟩=some (.slice B1 in'.length d1):=by rw[<-hW0];simp[go_sem]
 have k2:W0.cell? ⟨w.heap.size,2,none⟩=some (.slice B2 ahead.length d2):=by rw[<-hW0];simp[go_sem]
 have k3:W0.cell? ⟨w.heap.size,3,none⟩=some (.slice B3 out.length d3):=by rw[<-hW0];simp[go_sem]
 have k4:W0.cell? ⟨w.heap.size,4,none⟩=some (.slice B4 calls.length d4):=by rw[<-hW0];simp[go_sem]
 have k5:W0.cell? ⟨w.heap.size,5,none⟩=some (.int .i64 x):=by rw[<-hW0];simp[go_sem]
 have z0:=hbW.size;clear hW0;refine(S0.out _ hbW).mono ?_;rintro e w1 ⟨A1,c1,rfl,o1,b1⟩;have N1:aiG W0 sb sb.length A1 c1 w1:=⟨rfl,o1,b1⟩
 have z1:=b1.size;have FO:=ae b1 k1;have qC:True:=trivial;have qj:True:=trivial;have qB:True:=trivial;have qp:True:=trivial;have ql:True:=trivial;have pY:True:=trivial;have qg:True:=trivial;have vN:True:=trivial;have qX:True:=trivial;go_wp2_with (first
  |(at_builtin;have _t:=qC;refine bD rfl (.tmp 13) (.tmp 14) rfl w1 W0.heap.size _ c1 A1 _ [47] rfl rfl o1 (by omega) (by omega) ?_;intro A2 c2 w2 p2 g2;clear _t qC;have N2:=N1.next (us:=[[47]]) (akl _ _) p2 g2;have o2:=N2.2.1;have b2:=N2.2.2;have z2:=b2.size;have Gj:=ae b2 k1)
  |(go_at_call 146;have _t:=qj;refine(S1.out _ (bt hbW b2)).mono ?_;rintro e w3 ⟨A3,c3,rfl,o3,b3⟩;clear _t qj;have z3:=b3.size)
  |(at_builtin;have _t:=qB;refine fG rfl (.tmp 16) (.tmp 20) rfl w3 W0.heap.size _ c2 A2 _ w3.heap.size A3 _ c3 si rfl rfl (own_below o2 b3) (gz o3 rfl) (by omega) (by omega) ?_;intro A4 c4 w4 p4 g4;clear _t qB;have N4:=N2.next (us:=si) b3 p4 g4;have o4:=N4.2.1;have b4:=N4.2.2;have z4:=b4.size)
  |(at_builtin;have _t:=qp;refine bD rfl (.tmp 22) (.tmp 23) rfl w4 W0.heap.size _ c4 A4 _ [47] rfl rfl o4 (by omega) (by omega) ?_;intro A5 c5 w5 p5 g5;clear _t qp;have N5:=N4.next (us:=[[47]]) (akl _ _) p5 g5;have o5:=N5.2.1;have b5:=N5.2.2;have z5:=b5.size;have F9:=ae b5 k2)
  |(go_at_call 146;have _t:=ql;refine(S2.out _ (bt hbW b5)).mono ?_;rintro e w6 ⟨A6,c6,rfl,o6,b6⟩;clear _t ql;have z6:=b6.size)
  |(at_builtin;have _t:=pY;refine fG rfl (.tmp 25) (.tmp 29) rfl w6 W0.heap.size _ c5 A5 _ w6.heap.size A6 _ c6 sa rfl rfl (own_below o5 b6) (gz o6 rfl) (by omega) (by omega) ?_;intro A7 c7 w7 p7 g7;clear _t pY;have N7:=N5.next (us:=sa) b6 p7 g7;have o7:=N7.2.1;have b7:=N7.2.2;have z7:=b7.size)
  |(at_builtin;have _t:=qg;refine bD rfl (.tmp 31) (.tmp 32) rfl w7 W0.heap.size _ c7 A7 _ [62] rfl rfl o7 (by omega) (by omega) ?_;intro A8 c8 w8 p8 g8;clear _t qg;have N8:=N7.next (us:=[[62]]) (akl _ _) p8 g8;have o8:=N8.2.1;have b8:=N8.2.2;have z8:=b8.size;have FH:=ae b8 k3;have G8:=ae b8 k4;have FU:=ae b8 k5)
  |(go_at_call 147;have _t:=vN;refine(S3.out _ (bt hbW b8)).mono ?_;rintro e w9 ⟨A9,c9,rfl,o9,b9⟩;clear _t vN;have z9:=b9.size)
  |(at_builtin;have _t:=qX;refine fG rfl (.tmp 40) (.tmp 44) rfl w9 W0.heap.size _ c8 A8 _ w9.heap.size A9 _ c9 so rfl rfl (own_below o8 b9) (gz o9 rfl) (by omega) (by omega) ?_;intro tJ c10 w10 p10 g10;clear _t qX;have nV:=N8.next (us:=so) b9 p10 g10;have zU:=nV.2.1;have b10:=nV.2.2;have z10:=b10.size)
  |(go_at_call 41;((with_reducible refine(nH _ Bd g fc txt dF tJ c10 _ _ nV.len (hp.below (bt hbW b10)) (kQ zU) HL.out).mono ?_);rintro e wz ⟨rfl,hpz,hkz,hbz⟩)))
 go_end0
 refine⟨rfl,?_,(KP.below (bt hbW b10)).trans hkz,((bt hbW b10).mono hBd).trans hbz⟩;rw[HE.out];simpa [au] using hpz
theorem acw
  (w:World) (Bd g:Nat) (fc:Nat->Value) (txt:B) (A0 B1 B2 B3 B4:Option Addr) (c0 d1 d2 d3 d4:Nat) (back in' ahead:List (List Int)) (out:List Int) (calls:List Call) (x:Int) (sb si sa so:List B)
  (hp:Pr w Bd g fc txt) (hBd:Bd<=w.heap.size)
  (S0:Hid (∀w',Below w.heap.size w w'->Calls Tryz.prog 146 #[.pointer (some ⟨g,0,none⟩),.slice A0 back.length c0] w' (fM w' sb)))
  (S1:Hid (∀w',Below w.heap.size w w'->Calls Tryz.prog 146 #[.pointer (some ⟨g,0,none⟩),.slice B1 in'.length d1] w' (fM w' si)))
  (S2:Hid (∀w',Below w.heap.size w w'->Calls Tryz.prog 146 #[.pointer (some ⟨g,0,none⟩),.slice B2 ahead.length d2] w' (fM w' sa)))
  (hW:sb.length+si.length+sa.length+so.length+3<=10000000000)
  (S3:Hid (∀w',Below w.heap.size w w'->Calls Tryz.prog 147 #[.pointer (some ⟨g,0,none⟩),.slice B3 out.length d3] w' (fM w' so)))
  (W:List B) (HE:Hid (W=sb++[[47]]++si++[[47]]++sa++[[62]]++so)) (HL:Hid (txt.length+(au dF (sb++[[47]]++si++[[47]]++sa++[[62]]++so)).length<=1000000000000/\(sb++[[47]]++si++[[47]]++sa++[[62]]++so).length<=1000000000000)):
  Calls Tryz.prog 98 #[.pointer (some ⟨g,0,none⟩),.int .i64 2,.agg #[.slice A0 back.length c0,.slice B1 in'.length d1,.slice B2 ahead.length d2,.slice B3 out.length d3,.slice B4 calls.length d4,.int .i64 x]] w
   fun e w'=>e= .returned (.tuple #[])/\Pr w' Bd g fc (txt++au dF W)/\KP w w'/\Below Bd w w':=by
 go_enter Tryz.func98,Tryz.ntmps98
 go_wp2_with fail
 obtain⟨W0,hW0⟩:∃W0,w.alloc (.cells #[.slice A0 back.length c0,.slice B1 in'.length d1,.slice B2 ahead.length d2,.slice B3 out.length d3,.slice B4 calls.length d4,.int .i64 x] 76)=W0:=⟨_,rfl⟩
 rw[hW0];have hbW:Below w.heap.size w W0:=by rw[<-hW0];exact(akl _ _).alloc (nr _) _
 have k1:W0.cell? ⟨w.heap.size,1,none⟩=some (.slice B1 in'.length d1):=by rw[<-hW0];simp[go_sem]
 have k2:W0.cell? ⟨w.heap.size,2,none⟩=some (.slice B2 ahead.length d2):=by rw[<-hW0];simp[go_sem]
 have k3:W0.cell? ⟨w.heap.size,3,none⟩=some (.slice B3 out.length d3):=by rw[<-hW0];simp[go_sem]
 have k4:W0.cell? ⟨w.heap.size,4,none⟩=some (.slice B4 calls.length d4):=by rw[<-hW0];simp[go_sem]
 have k5:W0.cell? ⟨w.heap.size,5,none⟩=some (.int .i64 x):=by rw[<-hW0];simp[go_sem]
 have z0:=hbW.size;clear hW0;refine(S0.out _ hbW).mono ?_;rintro e w1 ⟨A1,c1,rfl,o1,b1⟩;have N1:aiG W0 sb sb.length A1 c1 w1:=⟨rfl,o1,b1⟩
 have z1:=b1.size;have FO:=ae b1 k1;have qC:True:=trivial;have qj:True:=trivial;have qB:True:=trivial;have qp:True:=trivial;have ql:True:=trivial;have pY:True:=trivial;have qg:True:=trivial;have vN:True:=trivial;have qX:True:=trivial;go_wp2_with (first
  |(at_builtin;have _t:=qC;refine bD rfl (.tmp 13) (.tmp 14) rfl w1 W0.heap.size _ c1 A1 _ [47] rfl rfl o1 (by omega) (by omega) ?_;intro A2 c2 w2 p2 g2;clear _t qC;have N2:=N1.next (us:=[[47]]) (akl _ _) p2 g2;have o2:=N2.2.1;have b2:=N2.2.2;have z2:=b2.size;have Gj:=ae b2 k1)
  |(go_at_call 146;have _t:=qj;refine(S1.out _ (bt hbW b2)).mono ?_;rintro e w3 ⟨A3,c3,rfl,o3,b3⟩;clear _t qj;have z3:=b3.size)
  |(at_builtin;have _t:=qB;refine fG rfl (.tmp 16) (.tmp 20) rfl w3 W0.heap.size _ c2 A2 _ w3.heap.size A3 _ c3 si rfl rfl (own_below o2 b3) (gz o3 rfl) (by omega) (by omega) ?_;intro A4 c4 w4 p4 g4;clear _t qB;have N4:=N2.next (us:=si) b3 p4 g4;have o4:=N4.2.1;have b4:=N4.2.2;have z4:=b4.size)
  |(at_builtin;have _t:=qp;refine bD rfl (.tmp 22) (.tmp 23) rfl w4 W0.heap.size _ c4 A4 _ [47] rfl rfl o4 (by omega) (by omega) ?_;intro A5 c5 w5 p5 g5;clear _t qp;have N5:=N4.next (us:=[[47]]) (akl _ _) p5 g5;have o5:=N5.2.1;have b5:=N5.2.2;have z5:=b5.size;have F9:=ae b5 k2)
  |(go_at_call 146;have _t:=ql;refine(S2.out _ (bt hbW b5)).mono ?_;rintro e w6 ⟨A6,c6,rfl,o6,b6⟩;clear _t ql;have z6:=b6.size)
  |(at_builtin;have _t:=pY;refine fG rfl (.tmp 25) (.tmp 29) rfl w6 W0.heap.size _ c5 A5 _ w6.heap.size A6 _ c6 sa rfl rfl (own_below o5 b6) (gz o6 rfl) (by omega) (by omega) ?_;intro A7 c7 w7 p7 g7;clear _t pY;have N7:=N5.next (us:=sa) b6 p7 g7;have o7:=N7.2.1;have b7:=N7.2.2;have z7:=b7.size)
  |(at_builtin;have _t:=qg;refine bD rfl (.tmp 31) (.tmp 32) rfl w7 W0.heap.size _ c7 A7 _ [62] rfl rfl o7 (by omega) (by omega) ?_;intro A8 c8 w8 p8 g8;clear _t qg;have N8:=N7.next (us:=[[62]]) (akl _ _) p8 g8;have o8:=N8.2.1;have b8:=N8.2.2;have z8:=b8.size;have FH:=ae b8 k3;have G8:=ae b8 k4;have FU:=ae b8 k5)
  |(go_at_call 147;have _t:=vN;refine(S3.out _ (bt hbW b8)).mono ?_;rintro e w9 ⟨A9,c9,rfl,o9,b9⟩;clear _t vN;have z9:=b9.size)
  |(at_builtin;have _t:=qX;refine fG rfl (.tmp 40) (.tmp 44) rfl w9 W0.heap.size _ c8 A8 _ w9.heap.size A9 _ c9 so rfl rfl (own_below o8 b9) (gz o9 rfl) (by omega) (by omega) ?_;intro tJ c10 w10 p10 g10;clear _t qX;have nV:=N8.next (us:=so) b9 p10 g10;have zU:=nV.2.1;have b10:=nV.2.2;have z10:=b10.size)
  |(go_at_call 41;((with_reducible refine(nH _ Bd g fc txt dF tJ c10 _ _ nV.len (hp.below (bt hbW b10)) (kQ zU) HL.out).mono ?_);rintro e wz ⟨rfl,hpz,hkz,hbz⟩)))
 go_end0
 refine⟨rfl,?_,(KP.below (bt hbW b10)).trans hkz,((bt hbW b10).mono hBd).trans hbz⟩;rw[HE.out];simpa [au] using hpz
theorem aaZ
  (w:World) (Bd g:Nat) (fc:Nat->Value) (txt:B) (A0 B1 B2 B3 B4:Option Addr) (c0 d1 d2 d3 d4:Nat) (back in' ahead:List (List Int)) (out:List Int) (calls:List Call) (x:Int) (sb si sa so:List B)
  (hp:Pr w Bd g fc txt) (hBd:Bd<=w.heap.size)
  (S0:Hid (∀w',Below w.heap.size w w'->Calls Tryz.prog 146 #[.pointer (some ⟨g,0,none⟩),.slice A0 back.length c0] w' (fM w' sb)))
  (S1:Hid (∀w',Below w.heap.size w w'->Calls Tryz.prog 146 #[.pointer (some ⟨g,0,none⟩),.slice B1 in'.length d1] w' (fM w' si)))
  (S2:Hid (∀w',Below w.heap.size w w'->Calls Tryz.prog 146 #[.pointer (some ⟨g,0,none⟩),.slice B2 ahead.length d2] w' (fM w' sa)))
  (hW:sb.length+si.length+sa.length+so.length+3<=10000000000)
  (S3:Hid (∀w',Below w.heap.size w w'->Calls Tryz.prog 147 #[.pointer (some ⟨g,0,none⟩),.slice B3 out.length d3] w' (fM w' so)))
  (W:List B) (HE:Hid (W=sb++[[47]]++si++[[47]]++sa++[[62]]++so)) (HL:Hid (txt.length+(au dF (sb++[[47]]++si++[[47]]++sa++[[62]]++so)).length<=1000000000000/\(sb++[[47]]++si++[[47]]++sa++[[62]]++so).length<=1000000000000)):
  Calls Tryz.prog 98 #[.pointer (some ⟨g,0,none⟩),.int .i64 3,.agg #[.slice A0 back.length c0,.slice B1 in'.length d1,.slice B2 ahead.length d2,.slice B3 out.length d3,.slice B4 calls.length d4,.int .i64 x]] w
   fun e w'=>e= .returned (.tuple #[])/\Pr w' Bd g fc (txt++au dF W)/\KP w w'/\Below Bd w w':=by
 go_enter Tryz.func98,Tryz.ntmps98
 go_wp2_with fail
 obtain⟨W0,hW0⟩:∃W0,w.alloc (.cells #[.slice A0 back.length c0,.slice B1 in'.length d1,.slice B2 ahead.length d2,.slice B3 out.length d3,.slice B4 calls.length d4,.int .i64 x] 76)=W0:=⟨_,rfl⟩
 rw[hW0];have hbW:Below w.heap.size w W0:=by rw[<-hW0];exact(akl _ _).alloc (nr _) _
 have k1:W0.cell? ⟨w.heap.size,1,none⟩=some (.slice B1 in'.length d1):=by rw[<-hW0];simp[go_sem]
 have k2:W0.cell? ⟨w.heap.size,2,none⟩=some (.slice B2 ahead.length d2):=by rw[<-hW0];simp[go_sem]
 have k3:W0.cell? ⟨w.heap.size,3,none⟩=some (.slice B3 out.length d3):=by rw[<-hW0];simp[go_sem]
 have k4:W0.cell? ⟨w.heap.size,4,none⟩=some (.slice B4 calls.length d4):=by rw[<-hW0];simp[go_sem]
 have k5:W0.cell? ⟨w.heap.size,5,none⟩=some (.int .i64 x):=by rw[<-hW0];simp[go_sem]
 have z0:=hbW.size;clear hW0;refine(S0.out _ hbW).mono ?_;rintro e w1 ⟨A1,c1,rfl,o1,b1⟩;have N1:aiG W0 sb sb.length A1 c1 w1:=⟨rfl,o1,b1⟩
 have z1:=b1.size;have FO:=ae b1 k1;have qC:True:=trivial;have qj:True:=trivial;have qB:True:=trivial;have qp:True:=trivial;have ql:True:=trivial;have pY:True:=trivial;have qg:True:=trivial;have vN:True:=trivial;have qX:True:=trivial;go_wp2_with (first
  |(at_builtin;have _t:=qC;refine bD rfl (.tmp 13) (.tmp 14) rfl w1 W0.heap.size _ c1 A1 _ [47] rfl rfl o1 (by omega) (by omega) ?_;intro A2 c2 w2 p2 g2;clear _t qC;have N2:=N1.next (us:=[[47]]) (akl _ _) p2 g2;have o2:=N2.2.1;have b2:=N2.2.2;have z2:=b2.size;have Gj:=ae b2 k1)
  |(go_at_call 146;have _t:=qj;refine(S1.out _ (bt hbW b2)).mono ?_;rintro e w3 ⟨A3,c3,rfl,o3,b3⟩;clear _t qj;have z3:=b3.size)
  |(at_builtin;have _t:=qB;refine fG rfl (.tmp 16) (.tmp 20) rfl w3 W0.heap.size _ c2 A2 _ w3.heap.size A3 _ c3 si rfl rfl (own_below o2 b3) (gz o3 rfl) (by omega) (by omega) ?_;intro A4 c4 w4 p4 g4;clear _t qB;have N4:=N2.next (us:=si) b3 p4 g4;have o4:=N4.2.1;have b4:=N4.2.2;have z4:=b4.size)
  |(at_builtin;have _t:=qp;refine bD rfl (.tmp 22) (.tmp 23) rfl w4 W0.heap.size _ c4 A4 _ [47] rfl rfl o4 (by omega) (by omega) ?_;intro A5 c5 w5 p5 g5;clear _t qp;have N5:=N4.next (us:=[[47]]) (akl _ _) p5 g5;have o5:=N5.2.1;have b5:=N5.2.2;have z5:=b5.size;have F9:=ae b5 k2)
  |(go_at_call 146;have _t:=ql;refine(S2.out _ (bt hbW b5)).mono ?_;rintro e w6 ⟨A6,c6,rfl,o6,b6⟩;clear _t ql;have z6:=b6.size)
  |(at_builtin;have _t:=pY;refine fG rfl (.tmp 25) (.tmp 29) rfl w6 W0.heap.size _ c5 A5 _ w6.heap.size A6 _ c6 sa rfl rfl (own_below o5 b6) (gz o6 rfl) (by omega) (by omega) ?_;intro A7 c7 w7 p7 g7;clear _t pY;have N7:=N5.next (us:=sa) b6 p7 g7;have o7:=N7.2.1;have b7:=N7.2.2;have z7:=b7.size)
  |(at_builtin;have _t:=qg;refine bD rfl (.tmp 31) (.tmp 32) rfl w7 W0.heap.size _ c7 A7 _ [62] rfl rfl o7 (by omega) (by omega) ?_;intro A8 c8 w8 p8 g8;clear _t qg;have N8:=N7.next (us:=[[62]]) (akl _ _) p8 g8;have o8:=N8.2.1;have b8:=N8.2.2;have z8:=b8.size;have FH:=ae b8 k3;have G8:=ae b8 k4;have FU:=ae b8 k5)
  |(go_at_call 147;have _t:=vN;refine(S3.out _ (bt hbW b8)).mono ?_;rintro e w9 ⟨A9,c9,rfl,o9,b9⟩;clear _t vN;have z9:=b9.size)
  |(at_builtin;have _t:=qX;refine fG rfl (.tmp 40) (.tmp 44) rfl w9 W0.heap.size _ c8 A8 _ w9.heap.size A9 _ c9 so rfl rfl (own_below o8 b9) (gz o9 rfl) (by omega) (by omega) ?_;intro tJ c10 w10 p10 g10;clear _t qX;have nV:=N8.next (us:=so) b9 p10 g10;have zU:=nV.2.1;have b10:=nV.2.2;have z10:=b10.size)
  |(go_at_call 41;((with_reducible refine(nH _ Bd g fc txt dF tJ c10 _ _ nV.len (hp.below (bt hbW b10)) (kQ zU) HL.out).mono ?_);rintro e wz ⟨rfl,hpz,hkz,hbz⟩)))
 go_end0
 refine⟨rfl,?_,(KP.below (bt hbW b10)).trans hkz,((bt hbW b10).mono hBd).trans hbz⟩;rw[HE.out];simpa [au] using hpz
theorem aan
  (w:World) (Bd g:Nat) (fc:Nat->Value) (txt:B) (A0 B1 B2 B3 B4:Option Addr) (c0 d1 d2 d3 d4:Nat) (back in' ahead:List (List Int)) (out:List Int) (calls:List Call) (x:Int) (sb si sa so:List B)
  (hp:Pr w Bd g fc txt) (hBd:Bd<=w.heap.size)
  (S0:Hid (∀w',Below w.heap.size w w'->Calls Tryz.prog 146 #[.pointer (some ⟨g,0,none⟩),.slice A0 back.length c0] w' (fM w' sb)))
  (S1:Hid (∀w',Below w.heap.size w w'->Calls Tryz.prog 146 #[.pointer (some ⟨g,0,none⟩),.slice B1 in'.length d1] w' (fM w' si)))
  (S2:Hid (∀w',Below w.heap.size w w'->Calls Tryz.prog 146 #[.pointer (some ⟨g,0,none⟩),.slice B2 ahead.length d2] w' (fM w' sa)))
  (hW:sb.length+si.length+sa.length+so.length+3<=10000000000)
  (S3:Hid (∀w',Below w.heap.size w w'->Calls Tryz.prog 147 #[.pointer (some ⟨g,0,none⟩),.slice B3 out.length d3] w' (fM w' so)))
  (W:List B) (HE:Hid (W=sb++[[47]]++si++[[47]]++sa++[[62]]++so)) (HL:Hid (txt.length+(au dF (sb++[[47]]++si++[[47]]++sa++[[62]]++so)).length<=1000000000000/\(sb++[[47]]++si++[[47]]++sa++[[62]]++so).length<=1000000000000)):
  Calls Tryz.prog 98 #[.pointer (some ⟨g,0,none⟩),.int .i64 5,.agg #[.slice A0 back.length c0,.slice B1 in'.length d1,.slice B2 ahead.length d2,.slice B3 out.length d3,.slice B4 calls.length d4,.int .i64 x]] w
   fun e w'=>e= .returned (.tuple #[])/\Pr w' Bd g fc (txt++au dF W)/\KP w w'/\Below Bd w w':=by
 go_enter Tryz.func98,Tryz.ntmps98
 go_wp2_with fail
 obtain⟨W0,hW0⟩:∃W0,w.alloc (.cells #[.slice A0 back.length c0,.slice B1 in'.length d1,.slice B2 ahead.length d2,.slice B3 out.length d3,.slice B4 calls.length d4,.int .i64 x] 76)=W0:=⟨_,rfl⟩
 rw[hW0];have hbW:Below w.heap.size w W0:=by rw[<-hW0];exact(akl _ _).alloc (nr _) _
 have k1:W0.cell? ⟨w.heap.size,1,none⟩=some (.slice B1 in'.length d1):=by rw[<-hW0];simp[go_sem]
 have k2:W0.cell? ⟨w.heap.size,2,none⟩=some (.slice B2 ahead.length d2):=by rw[<-hW0];simp[go_sem]
 have k3:W0.cell? ⟨w.heap.size,3,none⟩=some (.slice B3 out.length d3):=by rw[<-hW0];simp[go_sem]
 have k4:W0.cell? ⟨w.heap.size,4,none⟩=some (.slice B4 calls.length d4):=by rw[<-hW0];simp[go_sem]
 have k5:W0.cell? ⟨w.heap.size,5,none⟩=some (.int .i64 x):=by rw[<-hW0];simp[go_sem]
 have z0:=hbW.size;clear hW0;refine(S0.out _ hbW).mono ?_;rintro e w1 ⟨A1,c1,rfl,o1,b1⟩;have N1:aiG W0 sb sb.length A1 c1 w1:=⟨rfl,o1,b1⟩
 have z1:=b1.size;have FO:=ae b1 k1;have qC:True:=trivial;have qj:True:=trivial;have qB:True:=trivial;have qp:True:=trivial;have ql:True:=trivial;have pY:True:=trivial;have qg:True:=trivial;have vN:True:=trivial;have qX:True:=trivial;go_wp2_with (first
  |(at_builtin;have _t:=qC;refine bD rfl (.tmp 13) (.tmp 14) rfl w1 W0.heap.size _ c1 A1 _ [47] rfl rfl o1 (by omega) (by omega) ?_;intro A2 c2 w2 p2 g2;clear _t qC;have N2:=N1.next (us:=[[47]]) (akl _ _) p2 g2;have o2:=N2.2.1;have b2:=N2.2.2;have z2:=b2.size;have Gj:=ae b2 k1)
  |(go_at_call 146;have _t:=qj;refine(S1.out _ (bt hbW b2)).mono ?_;rintro e w3 ⟨A3,c3,rfl,o3,b3⟩;clear _t qj;have z3:=b3.size)
  |(at_builtin;have _t:=qB;refine fG rfl (.tmp 16) (.tmp 20) rfl w3 W0.heap.size _ c2 A2 _ w3.heap.size A3 _ c3 si rfl rfl (own_below o2 b3) (gz o3 rfl) (by omega) (by omega) ?_;intro A4 c4 w4 p4 g4;clear _t qB;have N4:=N2.next (us:=si) b3 p4 g4;have o4:=N4.2.1;have b4:=N4.2.2;have z4:=b4.size)
  |(at_builtin;have _t:=qp;refine bD rfl (.tmp 22) (.tmp 23) rfl w4 W0.heap.size _ c4 A4 _ [47] rfl rfl o4 (by omega) (by omega) ?_;intro A5 c5 w5 p5 g5;clear _t qp;have N5:=N4.next (us:=[[47]]) (akl _ _) p5 g5;have o5:=N5.2.1;have b5:=N5.2.2;have z5:=b5.size;have F9:=ae b5 k2)
  |(go_at_call 146;have _t:=ql;refine(S2.out _ (bt hbW b5)).mono ?_;rintro e w6 ⟨A6,c6,rfl,o6,b6⟩;clear _t ql;have z6:=b6.size)
  |(at_builtin;have _t:=pY;refine fG rfl (.tmp 25) (.tmp 29) rfl w6 W0.heap.size _ c5 A5 _ w6.heap.size A6 _ c6 sa rfl rfl (own_below o5 b6) (gz o6 rfl) (by omega) (by omega) ?_;intro A7 c7 w7 p7 g7;clear _t pY;have N7:=N5.next (us:=sa) b6 p7 g7;have o7:=N7.2.1;have b7:=N7.2.2;have z7:=b7.size)
  |(at_builtin;have _t:=qg;refine bD rfl (.tmp 31) (.tmp 32) rfl w7 W0.heap.size _ c7 A7 _ [62] rfl rfl o7 (by omega) (by omega) ?_;intro A8 c8 w8 p8 g8;clear _t qg;have N8:=N7.next (us:=[[62]]) (akl _ _) p8 g8;have o8:=N8.2.1;have b8:=N8.2.2;have z8:=b8.size;have FH:=ae b8 k3;have G8:=ae b8 k4;have FU:=ae b8 k5)
  |(go_at_call 147;have _t:=vN;refine(S3.out _ (bt hbW b8)).mono ?_;rintro e w9 ⟨A9,c9,rfl,o9,b9⟩;clear _t vN;have z9:=b9.size)
  |(at_builtin;have _t:=qX;refine fG rfl (.tmp 40) (.tmp 44) rfl w9 W0.heap.size _ c8 A8 _ w9.heap.size A9 _ c9 so rfl rfl (own_below o8 b9) (gz o9 rfl) (by omega) (by omega) ?_;intro tJ c10 w10 p10 g10;clear _t qX;have nV:=N8.next (us:=so) b9 p10 g10;have zU:=nV.2.1;have b10:=nV.2.2;have z10:=b10.size)
  |(go_at_call 41;((with_reducible refine(nH _ Bd g fc txt dF tJ c10 _ _ nV.len (hp.below (bt hbW b10)) (kQ zU) HL.out).mono ?_);rintro e wz ⟨rfl,hpz,hkz,hbz⟩)))
 go_end0
 refine⟨rfl,?_,(KP.below (bt hbW b10)).trans hkz,((bt hbW b10).mono hBd).trans hbz⟩;rw[HE.out];simpa [au] using hpz
theorem aci
  (w:World) (Bd g:Nat) (fc:Nat->Value) (txt:B) (A0 B1 B2 B3 B4:Option Addr) (c0 d1 d2 d3 d4:Nat) (back in' ahead:List (List Int)) (out:List Int) (calls:List Call) (x:Int) (sb si sa so:List B)
  (hp:Pr w Bd g fc txt) (hBd:Bd<=w.heap.size)
  (S0:Hid (∀w',Below w.heap.size w w'->Calls Tryz.prog 146 #[.pointer (some ⟨g,0,none⟩),.slice A0 back.length c0] w' (fM w' sb)))
  (S1:Hid (∀w',Below w.heap.size w w'->Calls Tryz.prog 146 #[.pointer (some ⟨g,0,none⟩),.slice B1 in'.length d1] w' (fM w' si)))
  (S2:Hid (∀w',Below w.heap.size w w'->Calls Tryz.prog 146 #[.pointer (some ⟨g,0,none⟩),.slice B2 ahead.length d2] w' (fM w' sa)))
  (hW:sb.length+si.length+sa.length+so.length+3<=10000000000)
  (tx:B) (S3:Hid (∀w',Below w.heap.size w w'->Calls Tryz.prog 42 #[.int .i64 x] w' fun e w''=>e= .returned (.string ⟨tx.toArray⟩)/\Below w'.heap.size w' w''))
  (W:List B) (HE:Hid (W=sb++[[47]]++si++[[47]]++sa++[[62]]++[tx])) (HL:Hid (txt.length+(au dF (sb++[[47]]++si++[[47]]++sa++[[62]]++[tx])).length<=1000000000000/\(sb++[[47]]++si++[[47]]++sa++[[62]]++[tx]).length<=1000000000000)):
  Calls Tryz.prog 98 #[.pointer (some ⟨g,0,none⟩),.int .i64 6,.agg #[.slice A0 back.length c0,.slice B1 in'.length d1,.slice B2 ahead.length d2,.slice B3 out.length d3,.slice B4 calls.length d4,.int .i64 x]] w
   fun e w'=>e= .returned (.tuple #[])/\Pr w' Bd g fc (txt++au dF W)/\KP w w'/\Below Bd w w':=by
 go_enter Tryz.func98,Tryz.ntmps98
 go_wp2_with fail
 obtain⟨W0,hW0⟩:∃W0,w.alloc (.cells #[.slice A0 back.length c0,.slice B1 in'.length d1,.slice B2 ahead.length d2,.slice B3 out.length d3,.slice B4 calls.length d4,.int .i64 x] 76)=W0:=⟨_,rfl⟩
 rw[hW0];have hbW:Below w.heap.size w W0:=by rw[<-hW0];exact(akl _ _).alloc (nr _) _
 have k1:W0.cell? ⟨w.heap.size,1,none⟩=some (.slice B1 in'.length d1):=by rw[<-hW0];simp[go_sem]
 have k2:W0.cell? ⟨w.heap.size,2,none⟩=some (.slice B2 ahead.length d2):=by rw[<-hW0];simp[go_sem]
 have k3:W0.cell? ⟨w.heap.size,3,none⟩=some (.slice B3 out.length d3):=by rw[<-hW0];simp[go_sem]
 have k4:W0.cell? ⟨w.heap.size,4,none⟩=some (.slice B4 calls.length d4):=by rw[<-hW0];simp[go_sem]
 have k5:W0.cell? ⟨w.heap.size,5,none⟩=some (.int .i64 x):=by rw[<-hW0];simp[go_sem]
 have z0:=hbW.size;clear hW0;refine(S0.out _ hbW).mono ?_;rintro e w1 ⟨A1,c1,rfl,o1,b1⟩;have N1:aiG W0 sb sb.length A1 c1 w1:=⟨rfl,o1,b1⟩
 have z1:=b1.size;have FO:=ae b1 k1;have qC:True:=trivial;have qj:True:=trivial;have qB:True:=trivial;have qp:True:=trivial;have ql:True:=trivial;have pY:True:=trivial;have qg:True:=trivial;have vN:True:=trivial;have qX:True:=trivial;go_wp2_with (first
  |(at_builtin;have _t:=qC;refine bD rfl (.tmp 13) (.tmp 14) rfl w1 W0.heap.size _ c1 A1 _ [47] rfl rfl o1 (by omega) (by omega) ?_;intro A2 c2 w2 p2 g2;clear _t qC;have N2:=N1.next (us:=[[47]]) (akl _ _) p2 g2;have o2:=N2.2.1;have b2:=N2.2.2;have z2:=b2.size;have Gj:=ae b2 k1)
  |(go_at_call 146;have _t:=qj;refine(S1.out _ (bt hbW b2)).mono ?_;rintro e w3 ⟨A3,c3,rfl,o3,b3⟩;clear _t qj;have z3:=b3.size)
  |(at_builtin;have _t:=qB;refine fG rfl (.tmp 16) (.tmp 20) rfl w3 W0.heap.size _ c2 A2 _ w3.heap.size A3 _ c3 si rfl rfl (own_below o2 b3) (gz o3 rfl) (by omega) (by omega) ?_;intro A4 c4 w4 p4 g4;clear _t qB;have N4:=N2.next (us:=si) b3 p4 g4;have o4:=N4.2.1;have b4:=N4.2.2;have z4:=b4.size)
  |(at_builtin;have _t:=qp;refine bD rfl (.tmp 22) (.tmp 23) rfl w4 W0.heap.size _ c4 A4 _ [47] rfl rfl o4 (by omega) (by omega) ?_;intro A5 c5 w5 p5 g5;clear _t qp;have N5:=N4.next (us:=[[47]]) (akl _ _) p5 g5;have o5:=N5.2.1;have b5:=N5.2.2;have z5:=b5.size;have F9:=ae b5 k2)
  |(go_at_call 146;have _t:=ql;refine(S2.out _ (bt hbW b5)).mono ?_;rintro e w6 ⟨A6,c6,rfl,o6,b6⟩;clear _t ql;have z6:=b6.size)
  |(at_builtin;have _t:=pY;refine fG rfl (.tmp 25) (.tmp 29) rfl w6 W0.heap.size _ c5 A5 _ w6.heap.size A6 _ c6 sa rfl rfl (own_below o5 b6) (gz o6 rfl) (by omega) (by omega) ?_;intro A7 c7 w7 p7 g7;clear _t pY;have N7:=N5.next (us:=sa) b6 p7 g7;have o7:=N7.2.1;have b7:=N7.2.2;have z7:=b7.size)
  |(at_builtin;have _t:=qg;refine bD rfl (.tmp 31) (.tmp 32) rfl w7 W0.heap.size _ c7 A7 _ [62] rfl rfl o7 (by omega) (by omega) ?_;intro A8 c8 w8 p8 g8;clear _t qg;have N8:=N7.next (us:=[[62]]) (akl _ _) p8 g8;have o8:=N8.2.1;have b8:=N8.2.2;have z8:=b8.size;have FH:=ae b8 k3;have G8:=ae b8 k4;have FU:=ae b8 k5)
  |(go_at_call 42;refine(S3.out _ (bt hbW b8)).mono ?_;rintro e w9 ⟨rfl,b9⟩;have z9:=b9.size)
  |(at_builtin;refine bD rfl (.tmp 69) (.tmp 73) rfl w9 W0.heap.size _ c8 A8 _ tx rfl rfl (own_below o8 b9) (by omega) (by omega) ?_;intro tJ c10 w10 p10 g10;have nV:=N8.next (us:=[tx]) b9 p10 g10;have zU:=nV.2.1;have b10:=nV.2.2;have z10:=b10.size)
  |(go_at_call 41;((with_reducible refine(nH _ Bd g fc txt dF tJ c10 _ _ nV.len (hp.below (bt hbW b10)) (kQ zU) HL.out).mono ?_);rintro e wz ⟨rfl,hpz,hkz,hbz⟩)))
 go_end0
 refine⟨rfl,?_,(KP.below (bt hbW b10)).trans hkz,((bt hbW b10).mono hBd).trans hbz⟩;rw[HE.out];simpa [au] using hpz
theorem U5
  (w:World) (Bd g:Nat) (fc:Nat->Value) (txt:B) (A0 B1 B2 B3 B4:Option Addr) (c0 d1 d2 d3 d4:Nat) (back in' ahead:List (List Int)) (out:List Int) (calls:List Call) (x:Int) (sb si sa so:List B)
  (hp:Pr w Bd g fc txt) (hBd:Bd<=w.heap.size)
  (S0:Hid (∀w',Below w.heap.size w w'->Calls Tryz.prog 146 #[.pointer (some ⟨g,0,none⟩),.slice A0 back.length c0] w' (fM w' sb)))
  (S1:Hid (∀w',Below w.heap.size w w'->Calls Tryz.prog 146 #[.pointer (some ⟨g,0,none⟩),.slice B1 in'.length d1] w' (fM w' si)))
  (S2:Hid (∀w',Below w.heap.size w w'->Calls Tryz.prog 146 #[.pointer (some ⟨g,0,none⟩),.slice B2 ahead.length d2] w' (fM w' sa)))
  (hW:sb.length+si.length+sa.length+so.length+3<=10000000000)
  (kind:Int) (h1:(kind==1)=false) (h2:(kind==2)=false) (h3:(kind==3)=false) (h4:(kind==4)=false) (h5:(kind==5)=false) (h6:(kind==6)=false)
  (W:List B) (HE:Hid (W=sb++[[47]]++si++[[47]]++sa++[[62]])) (HL:Hid (txt.length+(au dF (sb++[[47]]++si++[[47]]++sa++[[62]])).length<=1000000000000/\(sb++[[47]]++si++[[47]]++sa++[[62]]).length<=1000000000000)):
  Calls Tryz.prog 98 #[.pointer (some ⟨g,0,none⟩),.int .i64 kind,.agg #[.slice A0 back.length c0,.slice B1 in'.length d1,.slice B2 ahead.length d2,.slice B3 out.length d3,.slice B4 calls.length d4,.int .i64 x]] w
   fun e w'=>e= .returned (.tuple #[])/\Pr w' Bd g fc (txt++au dF W)/\KP w w'/\Below Bd w w':=by
 go_enter Tryz.func98,Tryz.ntmps98
 go_wp2_with fail
 obtain⟨W0,hW0⟩:∃W0,w.alloc (.cells #[.slice A0 back.length c0,.slice B1 in'.length d1,.slice B2 ahead.length d2,.slice B3 out.length d3,.slice B4 calls.length d4,.int .i64 x] 76)=W0:=⟨_,rfl⟩
 rw[hW0];have hbW:Below w.heap.size w W0:=by rw[<-hW0];exact(akl _ _).alloc (nr _) _
 have k1:W0.cell? ⟨w.heap.size,1,none⟩=some (.slice B1 in'.length d1):=by rw[<-hW0];simp[go_sem]
 have k2:W0.cell? ⟨w.heap.size,2,none⟩=some (.slice B2 ahead.length d2):=by rw[<-hW0];simp[go_sem]
 have k3:W0.cell? ⟨w.heap.size,3,none⟩=some (.slice B3 out.length d3):=by rw[<-hW0];simp[go_sem]
 have k4:W0.cell? ⟨w.heap.size,4,none⟩=some (.slice B4 calls.length d4):=by rw[<-hW0];simp[go_sem]
 have k5:W0.cell? ⟨w.heap.size,5,none⟩=some (.int .i64 x):=by rw[<-hW0];simp[go_sem]
 have z0:=hbW.size;clear hW0;refine(S0.out _ hbW).mono ?_;rintro e w1 ⟨A1,c1,rfl,o1,b1⟩;have N1:aiG W0 sb sb.length A1 c1 w1:=⟨rfl,o1,b1⟩
 have z1:=b1.size;have FO:=ae b1 k1;have qC:True:=trivial;have qj:True:=trivial;have qB:True:=trivial;have qp:True:=trivial;have ql:True:=trivial;have pY:True:=trivial;have qg:True:=trivial;have vN:True:=trivial;have qX:True:=trivial;go_wp2_with (first
  |(at_builtin;have _t:=qC;refine bD rfl (.tmp 13) (.tmp 14) rfl w1 W0.heap.size _ c1 A1 _ [47] rfl rfl o1 (by omega) (by omega) ?_;intro A2 c2 w2 p2 g2;clear _t qC;have N2:=N1.next (us:=[[47]]) (akl _ _) p2 g2;have o2:=N2.2.1;have b2:=N2.2.2;have z2:=b2.size;have Gj:=ae b2 k1)
  |(go_at_call 146;have _t:=qj;refine(S1.out _ (bt hbW b2)).mono ?_;rintro e w3 ⟨A3,c3,rfl,o3,b3⟩;clear _t qj;have z3:=b3.size)
  |(at_builtin;have _t:=qB;refine fG rfl (.tmp 16) (.tmp 20) rfl w3 W0.heap.size _ c2 A2 _ w3.heap.size A3 _ c3 si rfl rfl (own_below o2 b3) (gz o3 rfl) (by omega) (by omega) ?_;intro A4 c4 w4 p4 g4;clear _t qB;have N4:=N2.next (us:=si) b3 p4 g4;have o4:=N4.2.1;have b4:=N4.2.2;have z4:=b4.size)
  |(at_builtin;have _t:=qp;refine bD rfl (.tmp 22) (.tmp 23) rfl w4 W0.heap.size _ c4 A4 _ [47] rfl rfl o4 (by omega) (by omega) ?_;intro A5 c5 w5 p5 g5;clear _t qp;have N5:=N4.next (us:=[[47]]) (akl _ _) p5 g5;have o5:=N5.2.1;have b5:=N5.2.2;have z5:=b5.size;have F9:=ae b5 k2)
  |(go_at_call 146;have _t:=ql;refine(S2.out _ (bt hbW b5)).mono ?_;rintro e w6 ⟨A6,c6,rfl,o6,b6⟩;clear _t ql;have z6:=b6.size)
  |(at_builtin;have _t:=pY;refine fG rfl (.tmp 25) (.tmp 29) rfl w6 W0.heap.size _ c5 A5 _ w6.heap.size A6 _ c6 sa rfl rfl (own_below o5 b6) (gz o6 rfl) (by omega) (by omega) ?_;intro A7 c7 w7 p7 g7;clear _t pY;have N7:=N5.next (us:=sa) b6 p7 g7;have o7:=N7.2.1;have b7:=N7.2.2;have z7:=b7.size)
  |(at_builtin;have _t:=qg;refine bD rfl (.tmp 31) (.tmp 32) rfl w7 W0.heap.size _ c7 A7 _ [62] rfl rfl o7 (by omega) (by omega) ?_;intro A8 c8 w8 p8 g8;clear _t qg;have N8:=N7.next (us:=[[62]]) (akl _ _) p8 g8;have o8:=N8.2.1;have b8:=N8.2.2;have z8:=b8.size;have FH:=ae b8 k3;have G8:=ae b8 k4;have FU:=ae b8 k5)
  |(go_at_call 41;((with_reducible refine(nH _ Bd g fc txt dF A8 c8 _ _ N8.len (hp.below (bt hbW b8)) (kQ o8) HL.out).mono ?_);rintro e wz ⟨rfl,hpz,hkz,hbz⟩)))
 go_end0
 refine⟨rfl,?_,(KP.below (bt hbW b8)).trans hkz,((bt hbW b8).mono hBd).trans hbz⟩;rw[HE.out];simpa [au] using hpz
theorem abe
  (w:World) (Bd g:Nat) (fc:Nat->Value) (txt:B) (A0 B1 B2 B3 B4:Option Addr) (c0 d1 d2 d3 d4:Nat) (back in' ahead:List (List Int)) (out:List Int) (calls:List Call) (x:Int) (sb si sa so:List B)
  (hp:Pr w Bd g fc txt) (hBd:Bd<=w.heap.size)
  (S0:Hid (∀w',Below w.heap.size w w'->Calls Tryz.prog 146 #[.pointer (some ⟨g,0,none⟩),.slice A0 back.length c0] w' (fM w' sb)))
  (S1:Hid (∀w',Below w.heap.size w w'->Calls Tryz.prog 146 #[.pointer (some ⟨g,0,none⟩),.slice B1 in'.length d1] w' (fM w' si)))
  (S2:Hid (∀w',Below w.heap.size w w'->Calls Tryz.prog 146 #[.pointer (some ⟨g,0,none⟩),.slice B2 ahead.length d2] w' (fM w' sa)))
  (hW:sb.length+si.length+sa.length+so.length+3<=10000000000)
  (hT:Tabs w) (hC:Sl air 2 w (FT w) B4 calls) (hcl:calls.length<=so.length) (HS:Hid (so=calls.map (fun c=>ag c.at'++58::ag c.lookup)))
  (W:List B) (HE:Hid (W=sb++[[47]]++si++[[47]]++sa++[[62]]++so)) (HL:Hid (txt.length+(au dF (sb++[[47]]++si++[[47]]++sa++[[62]]++so)).length<=1000000000000/\(sb++[[47]]++si++[[47]]++sa++[[62]]++so).length<=1000000000000)):
  Calls Tryz.prog 98 #[.pointer (some ⟨g,0,none⟩),.int .i64 4,.agg #[.slice A0 back.length c0,.slice B1 in'.length d1,.slice B2 ahead.length d2,.slice B3 out.length d3,.slice B4 calls.length d4,.int .i64 x]] w
   fun e w'=>e= .returned (.tuple #[])/\Pr w' Bd g fc (txt++au dF W)/\KP w w'/\Below Bd w w':=by
 go_enter Tryz.func98,Tryz.ntmps98
 go_wp2_with fail
 obtain⟨W0,hW0⟩:∃W0,w.alloc (.cells #[.slice A0 back.length c0,.slice B1 in'.length d1,.slice B2 ahead.length d2,.slice B3 out.length d3,.slice B4 calls.length d4,.int .i64 x] 76)=W0:=⟨_,rfl⟩
 rw[hW0];have hbW:Below w.heap.size w W0:=by rw[<-hW0];exact(akl _ _).alloc (nr _) _
 have k1:W0.cell? ⟨w.heap.size,1,none⟩=some (.slice B1 in'.length d1):=by rw[<-hW0];simp[go_sem]
 have k2:W0.cell? ⟨w.heap.size,2,none⟩=some (.slice B2 ahead.length d2):=by rw[<-hW0];simp[go_sem]
 have k3:W0.cell? ⟨w.heap.size,3,none⟩=some (.slice B3 out.length d3):=by rw[<-hW0];simp[go_sem]
 have k4:W0.cell? ⟨w.heap.size,4,none⟩=some (.slice B4 calls.length d4):=by rw[<-hW0];simp[go_sem]
 have k5:W0.cell? ⟨w.heap.size,5,none⟩=some (.int .i64 x):=by rw[<-hW0];simp[go_sem]
 have z0:=hbW.size;clear hW0;refine(S0.out _ hbW).mono ?_;rintro e w1 ⟨A1,c1,rfl,o1,b1⟩;have N1:aiG W0 sb sb.length A1 c1 w1:=⟨rfl,o1,b1⟩
 have z1:=b1.size;have FO:=ae b1 k1;have qC:True:=trivial;have qj:True:=trivial;have qB:True:=trivial;have qp:True:=trivial;have ql:True:=trivial;have pY:True:=trivial;have qg:True:=trivial;have vN:True:=trivial;have qX:True:=trivial;go_wp2_with (first
  |(at_builtin;have _t:=qC;refine bD rfl (.tmp 13) (.tmp 14) rfl w1 W0.heap.size _ c1 A1 _ [47] rfl rfl o1 (by omega) (by omega) ?_;intro A2 c2 w2 p2 g2;clear _t qC;have N2:=N1.next (us:=[[47]]) (akl _ _) p2 g2;have o2:=N2.2.1;have b2:=N2.2.2;have z2:=b2.size;have Gj:=ae b2 k1)
  |(go_at_call 146;have _t:=qj;refine(S1.out _ (bt hbW b2)).mono ?_;rintro e w3 ⟨A3,c3,rfl,o3,b3⟩;clear _t qj;have z3:=b3.size)
  |(at_builtin;have _t:=qB;refine fG rfl (.tmp 16) (.tmp 20) rfl w3 W0.heap.size _ c2 A2 _ w3.heap.size A3 _ c3 si rfl rfl (own_below o2 b3) (gz o3 rfl) (by omega) (by omega) ?_;intro A4 c4 w4 p4 g4;clear _t qB;have N4:=N2.next (us:=si) b3 p4 g4;have o4:=N4.2.1;have b4:=N4.2.2;have z4:=b4.size)
  |(at_builtin;have _t:=qp;refine bD rfl (.tmp 22) (.tmp 23) rfl w4 W0.heap.size _ c4 A4 _ [47] rfl rfl o4 (by omega) (by omega) ?_;intro A5 c5 w5 p5 g5;clear _t qp;have N5:=N4.next (us:=[[47]]) (akl _ _) p5 g5;have o5:=N5.2.1;have b5:=N5.2.2;have z5:=b5.size;have F9:=ae b5 k2)
  |(go_at_call 146;have _t:=ql;refine(S2.out _ (bt hbW b5)).mono ?_;rintro e w6 ⟨A6,c6,rfl,o6,b6⟩;clear _t ql;have z6:=b6.size)
  |(at_builtin;have _t:=pY;refine fG rfl (.tmp 25) (.tmp 29) rfl w6 W0.heap.size _ c5 A5 _ w6.heap.size A6 _ c6 sa rfl rfl (own_below o5 b6) (gz o6 rfl) (by omega) (by omega) ?_;intro A7 c7 w7 p7 g7;clear _t pY;have N7:=N5.next (us:=sa) b6 p7 g7;have o7:=N7.2.1;have b7:=N7.2.2;have z7:=b7.size)
  |(at_builtin;have _t:=qg;refine bD rfl (.tmp 31) (.tmp 32) rfl w7 W0.heap.size _ c7 A7 _ [62] rfl rfl o7 (by omega) (by omega) ?_;intro A8 c8 w8 p8 g8;clear _t qg;have N8:=N7.next (us:=[[62]]) (akl _ _) p8 g8;have o8:=N8.2.1;have b8:=N8.2.2;have z8:=b8.size;have FH:=ae b8 k3;have G8:=ae b8 k4;have FU:=ae b8 k5))
 obtain⟨w8',VX⟩:∃w8',w8'=w8:=⟨_,rfl⟩
 have hN8:=N8;rw[<-VX] at hN8;go_loopw [6,51] (fun v i wr=>∃k n A c,k<=calls.length/\i= .int .i64 (k:Nat)/\v= .slice A n c/\n<=sb.length+1+si.length+1+sa.length+1+k/\aiG W0 (sb++[[47]]++si++[[47]]++sa++[[62]]++(calls.take k).map (fun c=>ag c.at'++58::ag c.lookup)) n A c wr) (fun _ i _=>calls.length - (intOf i).toNat)
 case atStart=>exact⟨0,_,A8,c8,nz _,rfl,rfl,by omega,by simpa using N8⟩
 case round=>
  obtain⟨k,n,A9,c9,hk,rfl,rfl,hnn,N9⟩:=hrel;have b9:=N9.2.2;have o9:=N9.2.1;have z9:=b9.size;have JD:=bt hbW b9;by_cases hlt:k<calls.length
  ·obtain⟨b,o,x',rfl,-,hx,e0,e1,r0,r1⟩:=((KP.below JD).sl air.ok hC).call hlt;have HS2:=hd0 (lY (fun c:Call=>ag c.at'++58::ag c.lookup) calls k x' hx.out);generalize hws:sb++[[47]]++si++[[47]]++sa++[[62]]++(calls.take k).map (fun c=>ag c.at'++58::ag c.lookup)=ws at*
   have Hws:=hd0 hws;obtain⟨x0,x1⟩:=x';dsimp only at e0 e1 r0 r1;have hT1:=hT.all JD;have n0:=hd0 (fun w hT=>aS w x0 hT r0);have n1:=hd0 (fun w hT=>aS w x1 hT r1);have l0:=rH r0;have l1:=rH r1;generalize ag x0=t0 at*
   generalize ag x1=t1 at*
   obtain⟨u1,a1,m1,U1⟩:=uy t0 [58] (by omega) (by simp);obtain⟨u2,a2,m2,U2⟩:=uy u1 t1 (by simp only[aF,ln] at m1;omega) (by omega);simp only[aF,ln] at m1;have hne:Hid (some wr.heap.size≠(Value.slice A9 n c9).ownBlock):=fun e=>by have:=(o9.lt _ e.symm).2;omega
   have hll:n+1<=1000000000000:=by omega
   clear hx hws r0 r1 VX hN8;go_wp2_with fail
   obtain⟨W1,hW1⟩:∃W1,wr.alloc (.cells #[.int .i64 x0,.int .i64 x1] 95)=W1:=⟨_,rfl⟩
   rw[hW1];have hb0:Below wr.heap.size wr W1:=by rw[<-hW1];exact(akl _ _).alloc (nr _) _
   have hT2:=hT1.all hb0;have kk0:W1.cell? ⟨wr.heap.size,0,none⟩=some (.int .i64 x0):=by rw[<-hW1];simp[go_sem]
   have Ez:W1.cell? ⟨wr.heap.size,1,none⟩=some (.int .i64 x1):=by rw[<-hW1];simp[go_sem]
   have Ku:=hb0.size;clear hW1 e0 e1
   go_region_held3 (fun w'=>w'.cell? ⟨wr.heap.size,0,none⟩=some (.int .i64 x0)/\w'.cell? ⟨wr.heap.size,1,none⟩=some (.int .i64 x1))
    (first
     |exact⟨qI hg4 (ae hc2 kk0) hne.out,qI hg4 (ae hc2 Ez) hne.out⟩
     |exact⟨ae hc2 kk0,ae hc2 Ez⟩
     |exact⟨ae hc1 kk0,ae hc1 Ez⟩
     |go_keep)
    (first
     |(go_at_call 42;refine(n0.out _ hT2.drew).mono ?_;rintro e v1 ⟨rfl,hb1⟩;have hc1:=jF hb1;have y1:=hc1.size)
     |(go_at_call 42;refine(n1.out _ (hT2.all hc1)).mono ?_;rintro e v2 ⟨rfl,hb2⟩;have hc2:=bt hc1 hb2;have y2:=hc2.size)
     |(refine IY (by rfl) (.tmp 55) (.tmp 64) (by rfl) v2 v2.heap.size rfl W0.heap.size n c9 1 A9 _ [u2] rfl (by go_simp) (by go_simp) (own_below o9 (bt hb0 hc2)) hll (nt z9 (nt Ku y2)) ?_;intro tJ c10 w10 p10 hg4))
   have nV:=N9.next (us:=[u2]) (bt hb0 hc2) p10 hg4;go_wp2;go_roundw
   case rel=>refine⟨k+1,n+1,tJ,c10,by omega,by simp,rfl,by omega,?_⟩;rw[<-Hws.out] at nV;rw[HS2.out];rw[U2.out,U1.out] at nV;simpa using nV
   case measure=>simp[intOf];omega
  obtain rfl:k=calls.length:=by omega
  rw[akr,<-HS.out] at N9;have b10:=N9.2.2;have zU:=N9.2.1;have hn9:=hd0 N9.1;clear VX hN8 o9 b9;go_wp2_with (go_at_call 41;((with_reducible refine(nH _ Bd g fc txt dF A9 c9 _ _ hn9.out (hp.below JD) (kQ zU) HL.out).mono ?_);rintro e wz ⟨rfl,hpz,hkz,hbz⟩))
  go_end0
  refine⟨rfl,?_,(KP.below JD).trans hkz,(JD.mono hBd).trans hbz⟩;rw[HE.out];simpa [au] using hpz
end
section
open Go.RowKit
theorem XH (n:Int)(h: -9223372036854775808<=n/\n<=9223372036854775807):(ag n).length<=20:=by
 have key:∀u:Nat,u<=9223372036854775808->(Lib.decDigits u).length<=19:=fun u hu=>by
  rw[Lib.decDigits_length];exact Ph 18 u (by show u<10000000000000000000;omega)
 unfold ag Lib.itoa;split
 ·have:=key n.natAbs (by omega);rw[aF];omega
 have:=key n.toNat (by omega);omega
theorem rC (n:Int)(h: -9223372036854775808<=n/\n<=9223372036854775807):(ah n).length<=21:=by have:=XH n h;unfold ah;simp;omega
theorem iW {n:Int}(h:N9 n):(ah n).length<=21:=rC n (by unfold N9 at h;omega)
theorem Qq {k:Nat}{n:Int}(hk:k<=1000)(h:In k n):(ah n).length<=21:=rC n (by obtain⟨a,b⟩:=h;omega)
theorem Ll {k:Nat}(h:k<=1000000):(ah (k:Int)).length<=21:=rC _ (by omega)
theorem GR (b:Bool):(uX b).length=2:=by cases b<;>rfl
theorem wS {l:List Int}(hl:l.length<=1000)(h:∀n∈l,(ah n).length<=21):(rowB l).length<=21021:=by have h1:=oG l ah 21 1000 h hl;have h2:=Ll (k:=l.length) (by omega);unfold rowB;rw[la];omega
theorem DU {l:List (List Int)}(hl:l.length<=1000)(h:∀s∈l,s.length<=1000/\∀n∈s,(ah n).length<=21):(jZ l).length<=21021021:=by have h1:=oG l rowB 21021 1000 (fun s hs=>wS (h s hs).1 (h s hs).2) hl;have h2:=Ll (k:=l.length) (by omega);unfold jZ;rw[la];omega
theorem MM {l:List Ins}(hl:l.length<=1000)(h:xg l):(fE l).length<=42021:=by
 have h1:=oG l pR 42 1000 (fun i hi=>by
  obtain⟨a,b,c⟩:=h i hi;have h1:=rC i.op (by omega);have h2:=iW c;unfold pR;rw[la];omega) hl
 have h2:=Ll (k:=l.length) (by omega);unfold fE;rw[la];omega
theorem zt {s:B}(h:nameB s=true):(qU s).length<=38:=by have h1:=ut h;have h2:=Ll (k:=s.length) (by omega);unfold qU;simp only[la,aF,ln];omega
theorem iC {α:Type}(l:List α)(f:α->B)(k:Nat)(hl:l.length<=1000)(h:∀x∈l,(f x).length<=k):(ah (l.length:Int)++l.flatMap f).length<=1000*k+21:=by have h1:=oG l f k 1000 h hl;have h2:=Ll (k:=l.length) (by omega);rw[la];omega
structure ajZ (g:ahR):Prop where
 pts:g.points.length<=1000
 ends:g.ends.length<=1000
 parts:g.parts.length<=1000
 anch:g.anchors.length<=1000
 aid:g.deltas.length<=1000
 hint:g.hint.length<=1000
structure aj0 (r:aii):Prop where
 rows:r.back.length<=1000/\r.in'.length<=1000/\r.ahead.length<=1000
 outs:r.out.length<=1000/\r.calls.length<=1000
structure ajD (f:Fnt):Prop where
 ahO:f.ahO.length<=1000/\∀g∈f.ahO,ajZ g
 chars:f.chars.length<=1000
 ahP:f.ahP.length<=1000/\∀l∈f.ahP,l.rules.length<=1000/\∀r∈l.rules,aj0 r
 ahZ:f.features.length<=1000/\∀x∈f.features,x.ahP.length<=1000
 ahQ:f.ahQ.length<=1000
 regs:f.regions.length<=1000/\∀r∈f.regions,r.ah4.length<=1000
 funcs:f.funcs.length<=1000/\∀p∈f.funcs,p.length<=1000
 cvt:f.cvt.length<=1000
theorem SmF.cap {f:Fnt}(h:SmF f):ajD f:=
 {ahO:=⟨by have:=h.ahO.1;omega,fun g hg=>by have:=h.ahO.2 g hg;exact⟨by have:=this.pts;omega,by have:=this.ends;omega,by have:=this.parts;omega,by have:=this.anch;omega,by have:=this.aid;omega,by have:=this.hint;omega⟩⟩
  chars:=by have:=h.chars;omega
  ahP:=⟨by have:=h.ahP.1;omega,fun l hl=>⟨by have:=(h.ahP.2 l hl).1;omega,fun r hr=>by have:=(h.ahP.2 l hl).2 r hr;exact⟨⟨by have:=this.rows;omega,by have:=this.rows;omega,by have:=this.rows;omega⟩,⟨by have:=this.outs;omega,by have:=this.outs;omega⟩⟩⟩⟩
  ahZ:=⟨by have:=h.ahZ.1;omega,fun x hx=>by have:=h.ahZ.2 x hx;omega⟩
  ahQ:=by have:=h.ahQ;omega
  regs:=⟨by have:=h.regs.1;omega,fun x hx=>by have:=h.regs.2 x hx;omega⟩
  funcs:=⟨by have:=h.funcs.1;omega,fun x hx=>by have:=h.funcs.2 x hx;omega⟩
  cvt:=by have:=h.cvt;omega}
theorem Qv {n:Nat}{g:ahR}(hn:n<=1000)(h:OkG n g)(hc:ajZ g):(eF g).length<=400000:=by
 have h1:=zt h.name;have h2:=iW h.adv;have h3:=GR g.mark;have h4:=iC g.points qo 44 hc.pts (fun p hp=>by
  have a:=iW (h.pts p hp).1;have b:=iW (h.pts p hp).2;have c:=GR p.on;unfold qo;simp only[la];omega)
 have he:∀(es:List Int) fr len,len<=1000->kX fr es len->∀e∈es,(ah e).length<=21:=by
  intro es;induction es with
  |nil=>intro fr len _ _ e he;simp at he
  |cons x xs ih=>
   intro fr len hl hok e he;obtain⟨a,b,c⟩:=hok;rw[akx] at he;rcases he with rfl|he
   ·exact rC _ (by omega)
   exact ih _ _ hl c e he
 have h5:=wS hc.ends (he g.ends 0 _ hc.pts h.ends);have h6:=iC g.parts jc 63 hc.parts (fun p hp=>by
  have:=h.parts p hp;have a:=Qq hn this.1;have b:=iW this.2.1;have c:=iW this.2.2;unfold jc;simp only[la];omega)
 have h7:=iC g.anchors jg 84 hc.anch (fun p hp=>by
  have:=h.anch p hp;have a:=rC p.kind (by omega);have b:=iW this.2.2.1;have c:=iW this.2.2.2.1;have d:=iW this.2.2.2.2;unfold jg;simp only[la];omega)
 have h8:=iC g.deltas kZ 84 hc.aid (fun p hp=>by
  have:=h.aid p hp;have a:=iW this.1;have b:=iW this.2.1;have c:=iW this.2.2.1;have d:=iW this.2.2.2;unfold kZ;simp only[la];omega)
 have h9:=MM hc.hint h.hint;unfold eF WJ Ko Lr Ru;simp only[la] at*
 omega
theorem Tf {n:Nat}{k:Int}{r:aii}(hn:n<=1000)(h:OkR n k r)(hc:aj0 r):(iT r).length<=64000000:=by
 have hs:∀s,OkS n s->s.length<=1000/\∀x∈s,(ah x).length<=21:=fun s hs=>⟨by have:=Oj hs;omega,fun x hx=>Qq hn (hs.2 x hx)⟩
 have h1:=DU hc.rows.1 (fun s hs'=>hs s (h.back s hs'));have h2:=DU hc.rows.2.1 (fun s hs'=>hs s (h.in' s hs'));have h3:=DU hc.rows.2.2 (fun s hs'=>hs s (h.ahead s hs'));have h4:=wS hc.outs.1 (fun x hx=>Qq hn (h.out x hx));have h5:=iC r.calls je 42 hc.outs.2 (fun c hc'=>by
  have a:=iW (h.calls c hc').1;have b:=iW (h.calls c hc').2;unfold je;simp only[la];omega)
 have h6:=iW h.x;unfold iT EU;simp only[la] at*
 omega
theorem UO {f:Fnt}(h:aiV f)(hc:ajD f):(lF f).length<=100000000000000:=by
 have h1:=iW h.unit;have h2:=iC f.ahO eF 400000 hc.ahO.1 (fun g hg=>Qv h.few (h.ahO g hg) (hc.ahO.2 g hg));have h3:=iC f.chars kY 42 hc.chars (fun c hc'=>by
  have a:=iW (h.chars c hc').1;have b:=Qq h.few (h.chars c hc').2;unfold kY;simp only[la];omega)
 have h4:=iC f.ahP gZ 64000000044 hc.ahP.1 (fun l hl=>by
  have a:=rC l.kind (by have:=h.ahP l hl;omega);have b:=GR l.aik;have c:=iC l.rules iT 64000000 (hc.ahP.2 l hl).1 (fun r hr=>Tf h.few ((h.ahP l hl).2.2 r hr) ((hc.ahP.2 l hl).2 r hr));unfold gZ Lj;simp only[la] at*
  omega)
 have h5:=iC f.features jh 21059 hc.ahZ.1 (fun x hx=>by
  have a:=zt (h.ahZ x hx).1;have b:=wS (hc.ahZ.2 x hx) (fun n hn=>iW ((h.ahZ x hx).2 n hn));unfold jh;simp only[la];omega)
 have h6:=iC f.ahQ ji 101 hc.ahQ (fun x hx=>by
  obtain⟨a,b,c,d⟩:=h.ahQ x hx;have a:=zt a;have b:=iW b;have c:=iW c;have d:=iW d;unfold ji;simp only[la];omega)
 have h7:=iC f.regions lh 63021 hc.regs.1 (fun x hx=>by
  have:=iC x.ah4 jO 63 (hc.regs.2 x hx) (fun t ht=>by
   obtain⟨a,b,c⟩:=h.regs x hx t ht;have a:=iW a;have b:=iW b;have c:=iW c;unfold jO;simp only[la];omega)
  unfold lh Aq;exact this)
 have h8:=iC f.funcs fE 42021 hc.funcs.1 (fun p hp=>MM (hc.funcs.2 p hp) (h.funcs p hp));have h9:=wS hc.cvt (fun n hn=>iW (h.cvt n hn));unfold lF FZ Qe L8 J3 PO P5 L9;simp only[la] at*
 omega
theorem RH {w:World}{l:List (String×DataW Unit)}(h:laidMet Tryz.prog l w)
  (m1:("fleuron/parse.opNames",Rows.laid_fleuron_parse_opNames)∈l) (m2:("fleuron/parse.anchorNames",Rows.laid_fleuron_parse_anchorNames)∈l) (m3:("fleuron/parse.lookupNames",Rows.laid_fleuron_parse_lookupNames)∈l):ain w∧nT≤w.heap.size:=
 ⟨⟨qm (jy h m1) (by kernel_rfl) (by kernel_rfl) Tryz.underlying144 Tryz.underlying9 (by kernel_rfl) (by kernel_rfl),
 qm (jy h m2) (by kernel_rfl) (by kernel_rfl) Tryz.underlying205 Tryz.underlying9 (by kernel_rfl) (by kernel_rfl),
 qm (jy h m3) (by kernel_rfl) (by kernel_rfl) Tryz.underlying206 Tryz.underlying9 (by kernel_rfl) (by kernel_rfl)⟩,
 TB (jy h m3) (by kernel_rfl)⟩
end
end Go.Proofs.YtkijckccfookeaaGreatDoor
