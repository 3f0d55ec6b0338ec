/- Lemmas. -/
import Derived.Test.YtkijckccfookeaaDoorX09
set_option linter.unusedVariables false
set_option linter.unusedSimpArgs false
set_option maxRecDepth 100000
set_option maxHeartbeats 32000000
namespace Go.Proofs.YtkijckccfookeaaDoor
open Go.RowKit
abbrev kN:TypeId:=72
def wI (w:World)(m:Nat)(fs:Nat->Value)(k:Nat)(e:Ending)(w':World):Prop:=∃(p:List Ins) (A:Option Addr) (c:Nat) (lp:Int),jr p/\p.length<=k/\(0<=lp/\lp<=10)/\e= .returned (.slice A p.length c)/\p.length<=c/\Sl ae9 2 w' (TS [kN] w.heap.size w') A p/\Mk w' m fs lp/\Mv m w w'
theorem KA {p:List Ins}(h:jr p):∀i∈p,I64 i.op/\I64 i.a:=fun i hi=>by
 obtain⟨a,b,c⟩:=h i hi;unfold N9 at c;unfold I64;omega
theorem dP {w:World}{m:Nat}{fs:Nat->Value}{lp:Int}{w1:World}(hk:Mk w1 m fs lp)(hv:Mv m w w1)(hlp:0<=lp/\lp<=10)(p:List Ins){cells:Array Value}(hc:cells=(jb p).toArray)(hp:jr p){n:Nat}(hn:n=p.length)(hl:n<=9):
  wI w m fs 9 (.returned (.slice (some ⟨w1.heap.size,0,none⟩) n n)) (w1.alloc (.cells cells kN)):=by
 subst hn hc;have hb:Below w1.heap.size w1 (w1.alloc (.cells (jb p).toArray kN)):=(agE _ _).alloc (ai _) _;refine⟨p,_,_,lp,hp,hl,hlp,rfl,ai _,?_,hk.below hb,iW hv hb⟩;have ho:=qM w1 w1.heap.size kN 2 p.length (jb p).toArray (ai _) (by simp[PV]) (by omega);exact cZ ho (by simpa using Dw _ _ p (KA hp)) (by simp) hv.size (by omega)
theorem az {o a:Int}{p:List Ins}(h:1<=o/\o<=39/\N9 a)(k:jr p):jr (⟨o,a⟩::p):=fun x hx=>by
 rw[agQ] at hx;rcases hx with rfl|hx
 ·exact h
 exact k x hx
theorem fJ:jr []:=fun _ h=>by cases h
theorem IE (w:World)(m:Nat)(fs:Nat->Value)(lp:Int)(n:Nat)(h:Mk w m fs lp)(hn:n<=100000):Calls Tryd.prog 36 #[.pointer (some ⟨m,0,none⟩),.int .i64 ((n:Int)+1)] w (Il w m fs lp (n+1)):=ay w m fs lp (n+1) h (by omega) (by omega)
theorem n9s (x:Nat)(h:x<=1000000):N9 ((x:Int) - 100):=by unfold N9;omega
theorem dV (x:Nat)(h:x<=1000000):N9 (x:Int):=by unfold N9;omega
theorem SK (w:World)(m:Nat)(fs:Nat->Value)(lp:Int)(n fu:Nat)(h:Mk w m fs lp)(hlp:0<=lp/\lp<=10)(hn:n<=1000)(hfu:fu<=1000):Calls Tryd.prog 62 #[.pointer (some ⟨m,0,none⟩),.int .i64 n,.int .i64 fu] w (wI w m fs 9):=by
 have H:=hd0 h;have HL:=hd0 hlp;clear h hlp;go_enter Tryd.func62,Tryd.ntmps62
 go_wp2_with fail
 refine(IE w m fs lp n H.out (by omega)).mono ?_;rintro e w1 ⟨p,hp,rfl,hm1,hv1⟩;have H1:=hd0 hm1;have V1:=hd0 hv1;clear hm1 hv1 H;go_wp2_with fail
 refine(IE w1 m fs lp n H1.out (by omega)).mono ?_;rintro e w2 ⟨q,hq,rfl,hm2,hv2⟩;have H2:=hd0 hm2;have V2:=hd0 (eu V1.out hv2);clear hm2 hv2 H1 V1;go_wp2_with fail
 refine(ay w2 m fs lp 2 H2.out (by omega) (by omega)).mono ?_;rintro e w3 ⟨a,ha,rfl,aX,hv3⟩;have H3:=hd0 aX;have V3:=hd0 (eu V2.out hv3);clear aX hv3 H2 V2;go_wp2_with fail
 refine(ay w3 m fs lp 12 H3.out (by omega) (by omega)).mono ?_;rintro e w4 ⟨z,hz,rfl,hm4,hv4⟩;have H4:=hd0 hm4;have V4:=hd0 (eu V3.out hv4);clear hm4 hv4 H3 V3;have P9:=dV p (by omega);have Q9:=dV q (by omega);have A9:=dV a (by omega);have hP:=hd0 P9;have hQ:=hd0 Q9;have hA:=hd0 A9;clear P9 Q9 A9;obtain⟨y,hy⟩:∃y:Int,(z:Int)=y:=⟨_,rfl⟩
 rw[hy];have hyy:y=0\/y=1\/y=2\/y=3\/y=4\/y=5\/y=6\/y=7\/y=8\/y=9\/y=10\/y=11:=by omega
 clear hy hz;rcases hyy with rfl|rfl|rfl|rfl|rfl|rfl|rfl|rfl|rfl|rfl|rfl|rfl
 ·go_wp2_with fail
  go_ret
  exact dP H4.out V4.out HL.out [⟨22,(a:Int)⟩,⟨23,(a:Int)⟩] rfl (az ⟨by decide,by decide,hA.out⟩ (az ⟨by decide,by decide,hA.out⟩ fJ)) rfl (by decide)
 ·go_wp2_with fail
  refine(ay w4 m fs lp 6 H4.out (by omega) (by omega)).mono ?_;rintro e w5 ⟨b,hb,rfl,xI,xO⟩;have Gj:=hd0 xI;have IQ:=hd0 (eu V4.out xO);clear xI xO;go_wp2_with fail
  go_ret
  exact dP Gj.out IQ.out HL.out [⟨24,(b:Int)⟩] rfl (az ⟨by decide,by decide,dV b (by omega)⟩ fJ) rfl (by decide)
 ·go_wp2_with fail
  go_ret
  exact dP H4.out V4.out HL.out [⟨1,(p:Int)⟩,⟨1,(p:Int)⟩,⟨29,0⟩,⟨15,0⟩,⟨32,0⟩] rfl (az ⟨by decide,by decide,hP.out⟩ (az ⟨by decide,by decide,hP.out⟩ (az ⟨by decide,by decide,dV 0 (by omega)⟩ (az ⟨by decide,by decide,dV 0 (by omega)⟩ (az ⟨by decide,by decide,dV 0 (by omega)⟩ fJ))))) rfl (by decide)
 ·go_wp2_with fail
  go_ret
  exact dP H4.out V4.out HL.out [⟨1,(p:Int)⟩,⟨1,(p:Int)⟩,⟨29,0⟩,⟨15,0⟩,⟨32,0⟩] rfl (az ⟨by decide,by decide,hP.out⟩ (az ⟨by decide,by decide,hP.out⟩ (az ⟨by decide,by decide,dV 0 (by omega)⟩ (az ⟨by decide,by decide,dV 0 (by omega)⟩ (az ⟨by decide,by decide,dV 0 (by omega)⟩ fJ))))) rfl (by decide)
 ·go_wp2_with fail
  refine(ay w4 m fs lp 200 H4.out (by omega) (by omega)).mono ?_;rintro e w5 ⟨b,hb,rfl,xI,xO⟩;have Gj:=hd0 xI;have IQ:=hd0 (eu V4.out xO);clear xI xO;go_wp2_with fail
  go_ret
  exact dP Gj.out IQ.out HL.out [⟨1,(p:Int)⟩,⟨1,(b:Int) - 100⟩,⟨31,0⟩] rfl (az ⟨by decide,by decide,hP.out⟩ (az ⟨by decide,by decide,n9s b (by omega)⟩ (az ⟨by decide,by decide,dV 0 (by omega)⟩ fJ))) rfl (by decide)
 ·go_wp2_with fail
  go_ret
  exact dP H4.out V4.out HL.out [⟨1,(p:Int)⟩,⟨1,(q:Int)⟩,⟨33,0⟩] rfl (az ⟨by decide,by decide,hP.out⟩ (az ⟨by decide,by decide,hQ.out⟩ (az ⟨by decide,by decide,dV 0 (by omega)⟩ fJ))) rfl (by decide)
 ·go_wp2_with fail
  go_ret
  exact dP H4.out V4.out HL.out [⟨34,(a:Int)⟩] rfl (az ⟨by decide,by decide,hA.out⟩ fJ) rfl (by decide)
 ·go_wp2_with fail
  go_ret
  exact dP H4.out V4.out HL.out [⟨1,(a:Int)⟩,⟨1,(q:Int)⟩,⟨25,0⟩,⟨1,3⟩,⟨5,0⟩,⟨26,0⟩] rfl (az ⟨by decide,by decide,hA.out⟩ (az ⟨by decide,by decide,hQ.out⟩ (az ⟨by decide,by decide,dV 0 (by omega)⟩ (az ⟨by decide,by decide,dV 3 (by omega)⟩ (az ⟨by decide,by decide,dV 0 (by omega)⟩ (az ⟨by decide,by decide,dV 0 (by omega)⟩ fJ)))))) rfl (by decide)
 ·by_cases hf0:0<fu
  ·go_wp2_with fail
   refine(ay w4 m fs lp fu H4.out (by omega) (by omega)).mono ?_;rintro e w5 ⟨b,hb,rfl,xI,xO⟩;have Gj:=hd0 xI;have IQ:=hd0 (eu V4.out xO);clear xI xO;go_wp2_with fail
   go_ret
   exact dP Gj.out IQ.out HL.out [⟨37,(b:Int)⟩] rfl (az ⟨by decide,by decide,dV b (by omega)⟩ fJ) rfl (by decide)
  go_wp2_with fail
  go_ret
  exact dP H4.out V4.out HL.out [⟨39,0⟩,⟨1,16⟩,⟨17,0⟩,⟨36,2⟩,⟨1,(q:Int)⟩,⟨2,0⟩] rfl (az ⟨by decide,by decide,dV 0 (by omega)⟩ (az ⟨by decide,by decide,dV 16 (by omega)⟩ (az ⟨by decide,by decide,dV 0 (by omega)⟩ (az ⟨by decide,by decide,dV 2 (by omega)⟩ (az ⟨by decide,by decide,hQ.out⟩ (az ⟨by decide,by decide,dV 0 (by omega)⟩ fJ)))))) rfl (by decide)
 ·have qm:w4.cell? ⟨m,11,none⟩=some (.int .i64 lp):=H4.out.cells.2;have ym:=H4.out.frozen 11;by_cases hf0:0<fu
  ·by_cases hl0:0<lp
   ·have RU:0<=lp - 1/\lp - 1<=10:=⟨by omega,by have:=HL.out.2;omega⟩
    have HL2:=hd0 RU;have hb1:=HL.out.2;clear RU;have HS:=hd0 (H4.out.set (lp':=lp - 1) (fs':=fs) 11 (.int .i64 (lp - 1)) (fun _ _ _ _=>rfl));have VS:=hd0 (ql V4.out (w':=w4.setCell ⟨m,11,none⟩ (.int .i64 (lp - 1))) (bU (World.grownBy.refl _ _) (.inl rfl) _) (fun x hx=> .inr (by injection hx with hx;exact hx.symm)));go_wp2_with fail
    refine(ay _ m fs (lp - 1) 5 (by exact HS.out) (by omega) (by omega)).mono ?_;rintro e w5 ⟨b,hb,rfl,Ik,hv5⟩;have Gj:=hd0 Ik;have IQ:=hd0 (eu VS.out hv5);clear Ik hv5;go_wp2_with fail
    refine(ay w5 m fs (lp - 1) fu Gj.out (by omega) (by omega)).mono ?_;rintro e w6 ⟨b2,hb2,rfl,Y4,YC⟩;have Hw6:=hd0 Y4;have Vw6:=hd0 (eu IQ.out YC);clear Y4 YC;go_wp2_with fail
    go_ret
    exact dP Hw6.out Vw6.out HL2.out [⟨1,(b:Int)⟩,⟨38,(b2:Int)⟩] rfl (az ⟨by decide,by decide,dV b (by omega)⟩ (az ⟨by decide,by decide,dV b2 (by omega)⟩ fJ)) rfl (by decide)
   go_wp2_with fail
   go_ret
   exact dP H4.out V4.out HL.out [⟨39,0⟩,⟨1,16⟩,⟨17,0⟩,⟨36,2⟩,⟨1,(q:Int)⟩,⟨2,0⟩] rfl (az ⟨by decide,by decide,dV 0 (by omega)⟩ (az ⟨by decide,by decide,dV 16 (by omega)⟩ (az ⟨by decide,by decide,dV 0 (by omega)⟩ (az ⟨by decide,by decide,dV 2 (by omega)⟩ (az ⟨by decide,by decide,hQ.out⟩ (az ⟨by decide,by decide,dV 0 (by omega)⟩ fJ)))))) rfl (by decide)
  go_wp2_with fail
  go_ret
  exact dP H4.out V4.out HL.out [⟨39,0⟩,⟨1,16⟩,⟨17,0⟩,⟨36,2⟩,⟨1,(q:Int)⟩,⟨2,0⟩] rfl (az ⟨by decide,by decide,dV 0 (by omega)⟩ (az ⟨by decide,by decide,dV 16 (by omega)⟩ (az ⟨by decide,by decide,dV 0 (by omega)⟩ (az ⟨by decide,by decide,dV 2 (by omega)⟩ (az ⟨by decide,by decide,hQ.out⟩ (az ⟨by decide,by decide,dV 0 (by omega)⟩ fJ)))))) rfl (by decide)
 ·go_wp2_with fail
  go_ret
  exact dP H4.out V4.out HL.out [⟨1,(p:Int)⟩,⟨30,0⟩,⟨1,(q:Int)⟩,⟨29,0⟩,⟨16,0⟩,⟨36,3⟩,⟨1,(q:Int)⟩,⟨1,64⟩,⟨31,0⟩] rfl (az ⟨by decide,by decide,hP.out⟩ (az ⟨by decide,by decide,dV 0 (by omega)⟩ (az ⟨by decide,by decide,hQ.out⟩ (az ⟨by decide,by decide,dV 0 (by omega)⟩ (az ⟨by decide,by decide,dV 0 (by omega)⟩ (az ⟨by decide,by decide,dV 3 (by omega)⟩ (az ⟨by decide,by decide,hQ.out⟩ (az ⟨by decide,by decide,dV 64 (by omega)⟩ (az ⟨by decide,by decide,dV 0 (by omega)⟩ fJ))))))))) rfl (by decide)
 go_wp2_with fail
 go_ret
 exact dP H4.out V4.out HL.out [⟨39,0⟩,⟨1,16⟩,⟨17,0⟩,⟨36,2⟩,⟨1,(q:Int)⟩,⟨2,0⟩] rfl (az ⟨by decide,by decide,dV 0 (by omega)⟩ (az ⟨by decide,by decide,dV 16 (by omega)⟩ (az ⟨by decide,by decide,dV 0 (by omega)⟩ (az ⟨by decide,by decide,dV 2 (by omega)⟩ (az ⟨by decide,by decide,hQ.out⟩ (az ⟨by decide,by decide,dV 0 (by omega)⟩ fJ)))))) rfl (by decide)
end Go.Proofs.YtkijckccfookeaaDoor
