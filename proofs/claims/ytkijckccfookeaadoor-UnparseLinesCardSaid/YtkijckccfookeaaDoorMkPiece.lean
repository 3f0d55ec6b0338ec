/- Lemmas. -/
import Derived.Test.YtkijckccfookeaaDoorW09
set_option linter.unusedVariables false
set_option linter.unusedSimpArgs false
set_option maxRecDepth 100000
set_option maxHeartbeats 32000000
namespace Go.Proofs.YtkijckccfookeaaDoor
open Go.RowKit
abbrev iO:TypeId:=72
def qC (w:World)(m:Nat)(fs:Nat->Value)(k:Nat)(e:Ending)(w':World):Prop:=∃(p:List Ins) (A:Option Addr) (c:Nat) (lp:Int),gU p/\p.length<=k/\(0<=lp/\lp<=10)/\e= .returned (.slice A p.length c)/\p.length<=c/\Sl ZQ 2 w' (TS [iO] w.heap.size w') A p/\Mk w' m fs lp/\Mv m w w'
theorem AC {p:List Ins}(h:gU p):∀i∈p,I64 i.op/\I64 i.a:=fun i hi=>by
 obtain⟨a,b,c⟩:=h i hi;unfold N9 at c;unfold I64;omega
theorem bM {w:World}{m:Nat}{fs:Nat->Value}{lp:Int}{w1:World}(hk:Mk w1 m fs lp)(hv:Mv m w w1)(hlp:0<=lp/\lp<=10)(p:List Ins){cells:Array Value}(hc:cells=(eQ p).toArray)(hp:gU p){n:Nat}(hn:n=p.length)(hl:n<=9):
  qC w m fs 9 (.returned (.slice (some ⟨w1.heap.size,0,none⟩) n n)) (w1.alloc (.cells cells iO)):=by
 subst hn hc;have hb:Below w1.heap.size w1 (w1.alloc (.cells (eQ p).toArray iO)):=(aa0 _ _).alloc (ag _) _;refine⟨p,_,_,lp,hp,hl,hlp,rfl,ag _,?_,hk.below hb,dX hv hb⟩;have ho:=kX w1 w1.heap.size iO 2 p.length (eQ p).toArray (ag _) (by simp[Gg]) (by omega);exact aY ho (by simpa using uS _ _ p (AC hp)) (by simp) hv.size (by omega)
theorem au {o a:Int}{p:List Ins}(h:1<=o/\o<=39/\N9 a)(k:gU p):gU (⟨o,a⟩::p):=fun x hx=>by
 rw[abd] at hx;rcases hx with rfl|hx
 ·exact h
 exact k x hx
theorem dA:gU []:=fun _ h=>by cases h
theorem zG (w:World)(m:Nat)(fs:Nat->Value)(lp:Int)(n:Nat)(h:Mk w m fs lp)(hn:n<=100000):Calls Tryd.prog 36 #[.pointer (some ⟨m,0,none⟩),.int .i64 ((n:Int)+1)] w (zD w m fs lp (n+1)):=ak w m fs lp (n+1) h (by omega) (by omega)
theorem WV (x:Nat)(h:x<=1000000):N9 ((x:Int) - 100):=by unfold N9;omega
theorem bW (x:Nat)(h:x<=1000000):N9 (x:Int):=by unfold N9;omega
theorem Ib (w:World)(m:Nat)(fs:Nat->Value)(lp:Int)(n fu:Nat)(h:Mk w m fs lp)(hlp:0<=lp/\lp<=10)(hn:n<=1000)(hfu:fu<=1000):Calls Tryd.prog 62 #[.pointer (some ⟨m,0,none⟩),.int .i64 n,.int .i64 fu] w (qC w m fs 9):=by
 have H:=hd0 h;have HL:=hd0 hlp;clear h hlp;go_enter Tryd.func62,Tryd.ntmps62
 go_wp2_with fail
 refine(zG w m fs lp n H.out (by omega)).mono ?_;rintro e w1 ⟨p,hp,rfl,hm1,hv1⟩;have H1:=hd0 hm1;have V1:=hd0 hv1;clear hm1 hv1 H;go_wp2_with fail
 refine(zG w1 m fs lp n H1.out (by omega)).mono ?_;rintro e w2 ⟨q,hq,rfl,hm2,hv2⟩;have H2:=hd0 hm2;have V2:=hd0 (cO V1.out hv2);clear hm2 hv2 H1 V1;go_wp2_with fail
 refine(ak w2 m fs lp 2 H2.out (by omega) (by omega)).mono ?_;rintro e w3 ⟨a,ha,rfl,aF,hv3⟩;have H3:=hd0 aF;have V3:=hd0 (cO V2.out hv3);clear aF hv3 H2 V2;go_wp2_with fail
 refine(ak w3 m fs lp 12 H3.out (by omega) (by omega)).mono ?_;rintro e w4 ⟨z,hz,rfl,hm4,hv4⟩;have H4:=hd0 hm4;have V4:=hd0 (cO V3.out hv4);clear hm4 hv4 H3 V3;have P9:=bW p (by omega);have Q9:=bW q (by omega);have A9:=bW a (by omega);have hP:=hd0 P9;have hQ:=hd0 Q9;have hA:=hd0 A9;clear P9 Q9 A9;obtain⟨y,hy⟩:∃y:Int,(z:Int)=y:=⟨_,rfl⟩
 rw[hy];have WC:y=0\/y=1\/y=2\/y=3\/y=4\/y=5\/y=6\/y=7\/y=8\/y=9\/y=10\/y=11:=by omega
 clear hy hz;rcases WC with rfl|rfl|rfl|rfl|rfl|rfl|rfl|rfl|rfl|rfl|rfl|rfl
 ·go_wp2_with fail
  go_ret
  exact bM H4.out V4.out HL.out [⟨22,(a:Int)⟩,⟨23,(a:Int)⟩] rfl (au ⟨by decide,by decide,hA.out⟩ (au ⟨by decide,by decide,hA.out⟩ dA)) rfl (by decide)
 ·go_wp2_with fail
  refine(ak w4 m fs lp 6 H4.out (by omega) (by omega)).mono ?_;rintro e w5 ⟨b,hb,rfl,qy,qo⟩;have zf:=hd0 qy;have zN:=hd0 (cO V4.out qo);clear qy qo;go_wp2_with fail
  go_ret
  exact bM zf.out zN.out HL.out [⟨24,(b:Int)⟩] rfl (au ⟨by decide,by decide,bW b (by omega)⟩ dA) rfl (by decide)
 ·go_wp2_with fail
  go_ret
  exact bM H4.out V4.out HL.out [⟨1,(p:Int)⟩,⟨1,(p:Int)⟩,⟨29,0⟩,⟨15,0⟩,⟨32,0⟩] rfl (au ⟨by decide,by decide,hP.out⟩ (au ⟨by decide,by decide,hP.out⟩ (au ⟨by decide,by decide,bW 0 (by omega)⟩ (au ⟨by decide,by decide,bW 0 (by omega)⟩ (au ⟨by decide,by decide,bW 0 (by omega)⟩ dA))))) rfl (by decide)
 ·go_wp2_with fail
  go_ret
  exact bM H4.out V4.out HL.out [⟨1,(p:Int)⟩,⟨1,(p:Int)⟩,⟨29,0⟩,⟨15,0⟩,⟨32,0⟩] rfl (au ⟨by decide,by decide,hP.out⟩ (au ⟨by decide,by decide,hP.out⟩ (au ⟨by decide,by decide,bW 0 (by omega)⟩ (au ⟨by decide,by decide,bW 0 (by omega)⟩ (au ⟨by decide,by decide,bW 0 (by omega)⟩ dA))))) rfl (by decide)
 ·go_wp2_with fail
  refine(ak w4 m fs lp 200 H4.out (by omega) (by omega)).mono ?_;rintro e w5 ⟨b,hb,rfl,qy,qo⟩;have zf:=hd0 qy;have zN:=hd0 (cO V4.out qo);clear qy qo;go_wp2_with fail
  go_ret
  exact bM zf.out zN.out HL.out [⟨1,(p:Int)⟩,⟨1,(b:Int) - 100⟩,⟨31,0⟩] rfl (au ⟨by decide,by decide,hP.out⟩ (au ⟨by decide,by decide,WV b (by omega)⟩ (au ⟨by decide,by decide,bW 0 (by omega)⟩ dA))) rfl (by decide)
 ·go_wp2_with fail
  go_ret
  exact bM H4.out V4.out HL.out [⟨1,(p:Int)⟩,⟨1,(q:Int)⟩,⟨33,0⟩] rfl (au ⟨by decide,by decide,hP.out⟩ (au ⟨by decide,by decide,hQ.out⟩ (au ⟨by decide,by decide,bW 0 (by omega)⟩ dA))) rfl (by decide)
 ·go_wp2_with fail
  go_ret
  exact bM H4.out V4.out HL.out [⟨34,(a:Int)⟩] rfl (au ⟨by decide,by decide,hA.out⟩ dA) rfl (by decide)
 ·go_wp2_with fail
  go_ret
  exact bM H4.out V4.out HL.out [⟨1,(a:Int)⟩,⟨1,(q:Int)⟩,⟨25,0⟩,⟨1,3⟩,⟨5,0⟩,⟨26,0⟩] rfl (au ⟨by decide,by decide,hA.out⟩ (au ⟨by decide,by decide,hQ.out⟩ (au ⟨by decide,by decide,bW 0 (by omega)⟩ (au ⟨by decide,by decide,bW 3 (by omega)⟩ (au ⟨by decide,by decide,bW 0 (by omega)⟩ (au ⟨by decide,by decide,bW 0 (by omega)⟩ dA)))))) rfl (by decide)
 ·by_cases hf0:0<fu
  ·go_wp2_with fail
   refine(ak w4 m fs lp fu H4.out (by omega) (by omega)).mono ?_;rintro e w5 ⟨b,hb,rfl,qy,qo⟩;have zf:=hd0 qy;have zN:=hd0 (cO V4.out qo);clear qy qo;go_wp2_with fail
   go_ret
   exact bM zf.out zN.out HL.out [⟨37,(b:Int)⟩] rfl (au ⟨by decide,by decide,bW b (by omega)⟩ dA) rfl (by decide)
  go_wp2_with fail
  go_ret
  exact bM H4.out V4.out HL.out [⟨39,0⟩,⟨1,16⟩,⟨17,0⟩,⟨36,2⟩,⟨1,(q:Int)⟩,⟨2,0⟩] rfl (au ⟨by decide,by decide,bW 0 (by omega)⟩ (au ⟨by decide,by decide,bW 16 (by omega)⟩ (au ⟨by decide,by decide,bW 0 (by omega)⟩ (au ⟨by decide,by decide,bW 2 (by omega)⟩ (au ⟨by decide,by decide,hQ.out⟩ (au ⟨by decide,by decide,bW 0 (by omega)⟩ dA)))))) rfl (by decide)
 ·have qm:w4.cell? ⟨m,11,none⟩=some (.int .i64 lp):=H4.out.cells.2;have ym:=H4.out.frozen 11;by_cases hf0:0<fu
  ·by_cases hl0:0<lp
   ·have IC:0<=lp - 1/\lp - 1<=10:=⟨by omega,by have:=HL.out.2;omega⟩
    have HL2:=hd0 IC;have hb1:=HL.out.2;clear IC;have HS:=hd0 (H4.out.set (lp':=lp - 1) (fs':=fs) 11 (.int .i64 (lp - 1)) (fun _ _ _ _=>rfl));have VS:=hd0 (kF V4.out (w':=w4.setCell ⟨m,11,none⟩ (.int .i64 (lp - 1))) (aV (World.grownBy.refl _ _) (.inl rfl) _) (fun x hx=> .inr (by injection hx with hx;exact hx.symm)));go_wp2_with fail
    refine(ak _ m fs (lp - 1) 5 (by exact HS.out) (by omega) (by omega)).mono ?_;rintro e w5 ⟨b,hb,rfl,yJ,hv5⟩;have zf:=hd0 yJ;have zN:=hd0 (cO VS.out hv5);clear yJ hv5;go_wp2_with fail
    refine(ak w5 m fs (lp - 1) fu zf.out (by omega) (by omega)).mono ?_;rintro e w6 ⟨b2,hb2,rfl,MB,NQ⟩;have VL:=hd0 MB;have XO:=hd0 (cO zN.out NQ);clear MB NQ;go_wp2_with fail
    go_ret
    exact bM VL.out XO.out HL2.out [⟨1,(b:Int)⟩,⟨38,(b2:Int)⟩] rfl (au ⟨by decide,by decide,bW b (by omega)⟩ (au ⟨by decide,by decide,bW b2 (by omega)⟩ dA)) rfl (by decide)
   go_wp2_with fail
   go_ret
   exact bM H4.out V4.out HL.out [⟨39,0⟩,⟨1,16⟩,⟨17,0⟩,⟨36,2⟩,⟨1,(q:Int)⟩,⟨2,0⟩] rfl (au ⟨by decide,by decide,bW 0 (by omega)⟩ (au ⟨by decide,by decide,bW 16 (by omega)⟩ (au ⟨by decide,by decide,bW 0 (by omega)⟩ (au ⟨by decide,by decide,bW 2 (by omega)⟩ (au ⟨by decide,by decide,hQ.out⟩ (au ⟨by decide,by decide,bW 0 (by omega)⟩ dA)))))) rfl (by decide)
  go_wp2_with fail
  go_ret
  exact bM H4.out V4.out HL.out [⟨39,0⟩,⟨1,16⟩,⟨17,0⟩,⟨36,2⟩,⟨1,(q:Int)⟩,⟨2,0⟩] rfl (au ⟨by decide,by decide,bW 0 (by omega)⟩ (au ⟨by decide,by decide,bW 16 (by omega)⟩ (au ⟨by decide,by decide,bW 0 (by omega)⟩ (au ⟨by decide,by decide,bW 2 (by omega)⟩ (au ⟨by decide,by decide,hQ.out⟩ (au ⟨by decide,by decide,bW 0 (by omega)⟩ dA)))))) rfl (by decide)
 ·go_wp2_with fail
  go_ret
  exact bM H4.out V4.out HL.out [⟨1,(p:Int)⟩,⟨30,0⟩,⟨1,(q:Int)⟩,⟨29,0⟩,⟨16,0⟩,⟨36,3⟩,⟨1,(q:Int)⟩,⟨1,64⟩,⟨31,0⟩] rfl (au ⟨by decide,by decide,hP.out⟩ (au ⟨by decide,by decide,bW 0 (by omega)⟩ (au ⟨by decide,by decide,hQ.out⟩ (au ⟨by decide,by decide,bW 0 (by omega)⟩ (au ⟨by decide,by decide,bW 0 (by omega)⟩ (au ⟨by decide,by decide,bW 3 (by omega)⟩ (au ⟨by decide,by decide,hQ.out⟩ (au ⟨by decide,by decide,bW 64 (by omega)⟩ (au ⟨by decide,by decide,bW 0 (by omega)⟩ dA))))))))) rfl (by decide)
 go_wp2_with fail
 go_ret
 exact bM H4.out V4.out HL.out [⟨39,0⟩,⟨1,16⟩,⟨17,0⟩,⟨36,2⟩,⟨1,(q:Int)⟩,⟨2,0⟩] rfl (au ⟨by decide,by decide,bW 0 (by omega)⟩ (au ⟨by decide,by decide,bW 16 (by omega)⟩ (au ⟨by decide,by decide,bW 0 (by omega)⟩ (au ⟨by decide,by decide,bW 2 (by omega)⟩ (au ⟨by decide,by decide,hQ.out⟩ (au ⟨by decide,by decide,bW 0 (by omega)⟩ dA)))))) rfl (by decide)
end Go.Proofs.YtkijckccfookeaaDoor
