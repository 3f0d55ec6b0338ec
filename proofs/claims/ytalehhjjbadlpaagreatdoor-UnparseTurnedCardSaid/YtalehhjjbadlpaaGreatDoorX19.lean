/- Lemmas. -/
import Derived.Test.YtalehhjjbadlpaaGreatDoorX18
import Derived.Test.YtalehhjjbadlpaaGreatDoorMkU
import Derived.Test.YtalehhjjbadlpaaGreatDoorMkRs
import Derived.Deep.CutBlock
set_option linter.all false
set_option maxRecDepth 100000
set_option maxHeartbeats 32000000
namespace Go.Proofs.YtalehhjjbadlpaaGreatDoor
open Go.RowKit
variable(w:World)
def xa (a:Int)(r:k'):Prop:=(a=1\/a=5->∀s,r.ij.head? =some s->r.out.length=s.length)/\(a=2->r.out.length<=6)/\(a=3->r.out.length=1)/\(a≠1->a≠2->a≠3->a≠5->r.out=[])
structure tW (n m:Nat)(kd:Int)(r:k'):Prop where
 w:xa kd r
 out:∀x∈r.out,In n x
 i:r.gw.length<=6
 gw:∀c∈r.gw,In r.ij.length c.iB/\In m c.lookup
 uW:r.gw≠[]->kd=4
 x:N9 r.x
 u':r.x≠0->kd=6
theorem Ka (f:iu)(A1 A2 A3 A4 A5 A6 A7 A8:Option Addr)(c1 c2 c3 c4 c5 c6 c7 c8:Nat)(kd:Int)(r:k')(C0 C1 C2 C3 C4:Option Addr)(e0 z A B e4:Nat)(hI:Sl gT 1 w (Lw w) C1 r.ij)(hO:Sl gS 1 w (Lw w) C3 r.out)(hC:Sl mo 2 w (Lw w) C4 r.gw)(hL:Sl jn 3 w (Lw w) A3 f.ge)(Q:kd=1\/kd=5->0<r.ij.length)(hB:sy r)(hn:ip f.ga.length)(hm:ip f.ge.length):Calls Tryz.prog 127 #[.agg #[.int .i64 f.gt,.slice A1 f.ga.length c1,.slice A2 f.f6.length c2,.slice A3 f.ge.length c3,.slice A4 f.a'.length c4,.slice A5 f.gM.length c5,.slice A6 f.d'.length c6,.slice A7 f.fY.length c7,.slice A8 f.gP.length c8],.int .i64 kd,.agg #[.slice C0 r.gE.length e0,.slice C1 r.ij.length z,.slice C2 r.ahead.length A,.slice C3 r.out.length B,.slice C4 r.gw.length e4,.int .i64 r.x]] w (iz w (tW f.ga.length f.ge.length kd r)):=by
 obtain⟨P,HP⟩:∃P:Prop,Hid (P=(tW f.ga.length f.ge.length kd r)):=⟨_,rfl⟩
 rw[<-HP.out];obtain⟨b0,b1,b2,b3,b4⟩:=hB;unfold ip at b0 b1 b2 b3 b4 hn hm;obtain⟨Wf,R,p,bV⟩:=aO w 32 #[.int .i64 f.gt,.slice A1 f.ga.length c1,.slice A2 f.f6.length c2,.slice A3 f.ge.length c3,.slice A4 f.a'.length c4,.slice A5 f.gM.length c5,.slice A6 f.d'.length c6,.slice A7 f.fY.length c7,.slice A8 f.gP.length c8];have bH:Hid (Below w.heap.size w Wf):=J p;have kK:=J bV;obtain⟨q,oC,a,C⟩:=aO Wf 69 #[.slice C0 r.gE.length e0,.slice C1 r.ij.length z,.slice C2 r.ahead.length A,.slice C3 r.out.length B,.slice C4 r.gw.length e4,.int .i64 r.x];have S:Hid (Below w.heap.size w q):=J (bH.out.trans (a.mono bH.out.size));have L:=J C;have aQ:Hid (Bk q w.heap.size 32 #[.int .i64 f.gt,.slice A1 f.ga.length c1,.slice A2 f.f6.length c2,.slice A3 f.ge.length c3,.slice A4 f.a'.length c4,.slice A5 f.gM.length c5,.slice A6 f.d'.length c6,.slice A7 f.fY.length c7,.slice A8 f.gP.length c8]):=J (Bk.l bV a);have aa:=hI;have HI:=J ((hI.lw gT.ok p).lw gT.ok a);have HO:=J ((hO.lw gS.ok p).lw gS.ok a);have HC:=J ((hC.lw mo.ok p).lw mo.ok a);have HL:=J ((hL.lw jn.ok p).lw jn.ok a);have k1:=C.cell 1;have k3:=C.cell 3;have jc:=S.out.size;clear p a bV C hI hO hC hL aa;go_enter Tryz.func127,Tryz.ntmps127
 have d:(kd=1\/kd=5)->0<r.ij.length:=Q;clear Q
 go_upto_block 0 with fail
 try rw[R]
 try rw[oC]
 clear R oC;go_cut [8]from 19 to 36 (λs8 wx=>∃b:Bool,s8=.bool b/\(b=false->xa kd r)/\q=wx)
 case first=>
  have z:(kd==1)=false\/kd=1:=by by_cases h:kd=1;exact .inr h;exact .inl (fM h)
  have A:(kd==2)=false\/kd=2:=by by_cases h:kd=2;exact .inr h;exact .inl (fM h)
  have B:(kd==3)=false\/kd=3:=by by_cases h:kd=3;exact .inr h;exact .inl (fM h)
  have M:(kd==5)=false\/kd=5:=by by_cases h:kd=5;exact .inr h;exact .inl (fM h)
  rcases z with z|hk1
  .rcases M with M|hk5
   .rcases A with A|hk2
    .rcases B with B|hk3
     .have HW:Hid (decide (0<r.out.length)=false->xa kd r):=J λl=>⟨λh=>by rcases h with rfl|rfl;exact absurd z (by decide);exact absurd M (by decide),λh=>by subst h;exact absurd A (by decide),λh=>by subst h;exact absurd B (by decide),λ_ _ _ _=>List.eq_nil_of_length_eq_zero (by have:=of_decide_eq_false l;omega)⟩
      go_wp2_with fail
      go_meet
      exact⟨_,rfl,HW.out,rfl⟩
     subst hk3;clear d z A M;go_wp2_with fail
     go_meet
     exact⟨_,rfl,λl=>⟨λh=>by omega,λh=>by omega,λ_=>by have:=bne_eq_false_iff_eq.1 l;omega,λ_ _ Z=>absurd rfl Z⟩,rfl⟩
    subst hk2;clear d z B M;go_wp2_with fail
    go_meet
    exact⟨_,rfl,λl=>⟨λh=>by omega,λ_=>by have:=of_decide_eq_false l;omega,λh=>by omega,λ_ F=>absurd rfl F⟩,rfl⟩
   have G:=d (.inr hk5);clear d z A B;subst hk5;obtain⟨b,o,s,A9,c9,rfl,l,hs,T,-⟩:=HI.out.row (k:=0) G;clear l;simp only[Nat.add_zero]at T;have H:r.ij.head? =some s:=by rw[List.head?_eq_getElem?];exact hs.out
   go_wp2_with fail
   go_meet
   exact⟨_,rfl,λl=>⟨λ_ s' g=>by rw[H]at g;injection g with g;subst g;have:=bne_eq_false_iff_eq.1 l;omega,λh=>by omega,λh=>by omega,λI F Z h5=>by first|exact absurd rfl I|exact absurd rfl h5⟩,rfl⟩
  have G:=d (.inl hk1);clear d A B M;subst hk1;obtain⟨b,o,s,A9,c9,rfl,l,hs,T,-⟩:=HI.out.row (k:=0) G;clear l;simp only[Nat.add_zero]at T;have H:r.ij.head? =some s:=by rw[List.head?_eq_getElem?];exact hs.out
  go_wp2_with fail
  go_meet
  exact⟨_,rfl,λl=>⟨λ_ s' g=>by rw[H]at g;injection g with g;subst g;have:=bne_eq_false_iff_eq.1 l;omega,λh=>by omega,λh=>by omega,λI F Z h5=>by first|exact absurd rfl I|exact absurd rfl h5⟩,rfl⟩
 case rest=>
 obtain⟨wb,rfl,hW,rfl⟩:=hcut;clear k1 k3 d;cases wb
 .have HW:=J (hW rfl);clear hW;go_wp2_with fail
  go_loopw [9] (λi wr=>∃k:Nat,k<=r.out.length/\i=.int .i64 k/\Hid (Up r.out k (In f.ga.length))/\Below q.heap.size q wr) (λi _=>r.out.length - (intOf i).toNat)
  case atStart=>exact⟨0,by omega,rfl,J (Up.zero _ _),gD _ _⟩
  case round=>
   obtain⟨w1,rfl⟩:∃x,x=wr:=⟨_,rfl⟩
   obtain⟨k,hk,rfl,m,a⟩:=hrel;have U:Hid (Below q.heap.size q w1):=J a;have E1:Hid (Below w.heap.size w w1):=J (S.out.trans (a.mono jc));have x1:=aQ.out.at a 1 rfl;have y3:=L.out.at a 3 rfl;by_cases aw:k<r.out.length
   .obtain⟨b,o,e,rfl,l,v,T,r0⟩:=(HO.out.lw gS.ok a).int aw;clear l r0 a;by_cases I:e<0
    .have ab:decide (e<0)=true:=decide_eq_true I;go_wp2_with fail
     go_quiet (fail)
     go_wp2_with fail
     go_ret
     exact iz.bad _ (by decide) (below_drewN E1.out _)
    have ab:decide (e<0)=false:=decide_eq_false I;by_cases F:(f.ga.length:Int)<=e
    .have pF:decide ((f.ga.length:Int)<=e)=true:=decide_eq_true F;go_wp2_with fail
     go_quiet (fail)
     go_wp2_with fail
     go_ret
     exact iz.bad _ (by decide) (below_drewN E1.out _)
    have pF:decide ((f.ga.length:Int)<=e)=false:=decide_eq_false F;have dN:=J (m.out.snoc v.out (In.of I F));go_wp2_with fail
    go_quiet (fail)
    go_wp2_with fail
    go_roundw
    case rel=>exact⟨k+1,by omega,by simp,dN,below_drewN U.out _⟩
    case measure=>simp[intOf];omega
   obtain rfl:k=r.out.length:=by omega
   have HU:=J (λx (v:x∈r.out)=>m.out.all x v);have y1:=L.out.at a 1 rfl;have y4:=L.out.at a 4 rfl;clear m x1 y3;by_cases Z:6<r.gw.length
   .have nJ:decide ((6:Int)<r.gw.length)=true:=decide_eq_true (by omega);clear a;go_wp2_with fail
    go_ret
    exact iz.bad _ (by decide) E1.out
   have nJ:decide ((6:Int)<r.gw.length)=false:=decide_eq_false (by omega);by_cases h4:0<r.gw.length/\¬kd=4
   .obtain⟨y,t⟩:=h4;have zi:decide (0<r.gw.length)=true:=decide_eq_true (by omega);have Az:(kd !=4)=true:=iP t;clear y t a;go_wp2_with fail
    go_ret
    exact iz.bad _ (by decide) E1.out
   have ac:decide (0<r.gw.length)=false\/(decide (0<r.gw.length)=true/\(kd !=4)=false):=by
    by_cases y:0<r.gw.length
    .exact .inr ⟨decide_eq_true (by omega),by have:kd=4:=Decidable.not_not.1 λt=>h4 ⟨y,t⟩;simp[this]⟩
    exact .inl (decide_eq_false (by omega))
   have ad:Hid (r.gw≠[]->kd=4):=J λhc=>Decidable.not_not.1 λt=>h4 ⟨tz.2 hc,t⟩
   clear h4;rcases ac with zi|⟨zi,Az⟩
   all_goals
    go_wp2_with fail
    go_loopw [10] (λi wr=>∃k:Nat,k<=r.gw.length/\i=.int .i64 k/\Hid (Up r.gw k (λc=>In r.ij.length c.iB/\In f.ge.length c.lookup))/\Below q.heap.size q wr) (λi _=>r.gw.length - (intOf i).toNat)
    case atStart=>exact⟨0,by omega,rfl,J (Up.zero _ _),U.out⟩
    case round=>
     obtain⟨w2,rfl⟩:∃x,x=wr:=⟨_,rfl⟩
     obtain⟨k,hk,rfl,m,j⟩:=hrel;have av:Hid (Below q.heap.size q w2):=J j;have E2:Hid (Below w.heap.size w w2):=J (S.out.trans (j.mono jc));clear y4 y1;have y4:=L.out.at j 4 rfl;by_cases aw:k<r.gw.length
     .obtain⟨b,o,x,rfl,l,v,T,q1,-,-⟩:=(HC.out.lw mo.ok j).call aw;obtain⟨W3,K,V,hk3⟩:=aO w2 71 #[.int .i64 x.iB,.int .i64 x.lookup];have u:Hid (Below q.heap.size q W3):=J (j.trans (V.mono j.size));have N:Hid (Below w.heap.size w W3):=J (S.out.trans (u.out.mono jc));have u1:=L.out.at u.out 1 rfl;have u3:=aQ.out.at u.out 3 rfl;have p0:=hk3.cell 0;have p1:=hk3.cell 1;clear l V hk3 j;by_cases W:x.iB<0
      .have BI:decide (x.iB<0)=true:=decide_eq_true W;go_wp2_with fail
       go_ret
       exact iz.bad _ (by decide) N.out
      have BI:decide (x.iB<0)=false:=decide_eq_false W;by_cases E:(r.ij.length:Int)<=x.iB
      .have Ls:decide ((r.ij.length:Int)<=x.iB)=true:=decide_eq_true E;go_wp2_with fail
       go_ret
       exact iz.bad _ (by decide) N.out
      have Ls:decide ((r.ij.length:Int)<=x.iB)=false:=decide_eq_false E;by_cases m3:x.lookup<0
      .have VV:decide (x.lookup<0)=true:=decide_eq_true m3;go_wp2_with fail
       go_ret
       exact iz.bad _ (by decide) N.out
      have VV:decide (x.lookup<0)=false:=decide_eq_false m3;by_cases m4:(f.ge.length:Int)<=x.lookup
      .have X:decide ((f.ge.length:Int)<=x.lookup)=true:=decide_eq_true m4;go_wp2_with fail
       go_ret
       exact iz.bad _ (by decide) N.out
      have X:decide ((f.ge.length:Int)<=x.lookup)=false:=decide_eq_false m4;obtain⟨lk,D⟩:∃n:Nat,x.lookup=n:=⟨x.lookup.toNat,by omega⟩
      obtain⟨b5,o5,O,A9,c9,Y,ak,al,v0,-⟩:=(HL.out.lw jn.ok u.out).lookup (k:=lk) (by omega)
      try simp only at Y
      subst Y;have dN:=J (m.out.snoc v.out ⟨In.of W E,In.of m3 m4⟩);clear ak al v m;rw[D]at p1 VV X q1;have n1:(0:Int)<=lk:=by omega
      have n2:(lk:Int)<f.ge.length:=by omega
      by_cases m5:O.gd<1
      .have ao:decide (O.gd<1)=true:=decide_eq_true m5
       try rw[D]at K
       go_wp2_with fail
       go_ret
       exact iz.bad _ (by decide) N.out
      have ao:decide (O.gd<1)=false:=decide_eq_false m5;by_cases m6:4<O.gd
      .have ap:decide (4<O.gd)=true:=decide_eq_true m6
       try rw[D]at K
       go_wp2_with fail
       go_ret
       exact iz.bad _ (by decide) N.out
      have ap:decide (4<O.gd)=false:=decide_eq_false m6
      try rw[D]at K
      go_wp2_with fail
      go_roundw
      case rel=>exact⟨k+1,by omega,by simp,dN,u.out⟩
      case measure=>simp[intOf];omega
     obtain rfl:k=r.gw.length:=by omega
     have aq:=J (λx (v:x∈r.gw)=>m.out.all x v);have y5:=L.out.at j 5 rfl;clear m j;by_cases W:gZ r.x=false
     .go_wp2_with (first|(go_at_call 84;refine(dQ _ _).mono ?_;rintro e w' ⟨rfl,rfl⟩))
      go_ret
      exact iz.bad _ (by decide) E2.out
     have BI:gZ r.x=true:=by simpa using W
     by_cases E:¬r.x=0/\¬kd=6
     .obtain⟨y,t⟩:=E;have a3:(r.x !=0)=true:=iP y;have a4:(kd !=6)=true:=iP t;clear y t;go_wp2_with (first|(go_at_call 84;refine(dQ _ _).mono ?_;rintro e w' ⟨rfl,rfl⟩))
      go_ret
      exact iz.bad _ (by decide) E2.out
     have ar:(r.x !=0)=false\/((r.x !=0)=true/\(kd !=6)=false):=by
      by_cases y:r.x=0
      .exact .inl (by simp[y])
      exact .inr ⟨iP y,by have:kd=6:=Decidable.not_not.1 λt=>E ⟨y,t⟩;simp[this]⟩
     have hg:P:=HP.out.mpr ⟨HW.out,HU.out,by omega,aq.out,ad.out,pK BI,λv=>Decidable.not_not.1 λt=>E ⟨v,t⟩⟩;clear E;rcases ar with a3|⟨a3,a4⟩
     all_goals
      go_wp2_with (first|(go_at_call 84;refine(dQ _ _).mono ?_;rintro e w' ⟨rfl,rfl⟩))
      go_ret
      exact iz.O hg E2.out
 clear hW;go_wp2_with fail
 go_ret
 exact iz.bad _ (by decide) S.out
section
attribute [-go_sem] Builtin.append_
theorem AW {w:World}(o:Obj){a:Addr}{v:Value}(h:w.cell? a=some v):(w.alloc o).cell? a=some v:=(jI (World.grownBy.refl w none) o).cell h (by simp)
theorem Cl (m:Nat)(s:Nat->Value)(t:Int)(G:Nat)(c:Option Addr)(d:Nat)(r:Int)(b:Option Addr)(e:Nat)(h:Mk w m s t)(g:s 1= c G d)(i:1<=G)(j:G<=1000)(q:1<=r/\r<=6)(a:List Int)(f k:Nat)(o:Sl gS 1 w (TR [aK] f k w) b a)(l:m<f)(p:∀x∈a,N9 x)(n:a.length<=1000):
  Calls Tryz.prog 76 #[.pointer (m,0),r,b a.length e] w (ng w m s t G r):=by
 have:r=1\/r=2\/r=3\/r=4\/r=5\/r=6:=by omega
 rcases this with rfl|rfl|rfl|rfl|rfl|rfl
 .exact Vx w m s t G c d b a.length e h g i j
 .exact Zk w m s t G c d b a.length e h g i j
 .exact Kd w m s t G c d b a.length e h g i j
 .exact Zj w m s t G c d b e h g i j a f k o l p n
 .exact Uw w m s t G c d b a.length e h g i j
 exact FJ w m s t G c d b a.length e h g i j
theorem O' (x:Nat)(h:x<10):∃v:Int,(#[Value.int .i64 1,.int .i64 2,.int .i64 3,.int .i64 4,.int .i64 4,.int .i64 5,.int .i64 6,.int .i64 7,.int .i64 8,.int .i64 1]:Array Value)[x]?=some (.int .i64 v)/\1<=v/\v<=8:=by
 have:x=0\/x=1\/x=2\/x=3\/x=4\/x=5\/x=6\/x=7\/x=8\/x=9:=by omega
 rcases this with rfl|rfl|rfl|rfl|rfl|rfl|rfl|rfl|rfl|rfl<;>exact⟨_,rfl,by decide,by decide⟩
def LI (w:World)(m:Nat)(b:Nat->Value)(d:Int)(G:Nat)(e:Ending)(w':World):Prop:=∃(a:List gH) (A:Option Addr) (c:Nat),(∀l∈a,tU G l)/\a.length<=6/\e=.returned (.tuple #[])/\Mk w' m (eP b 3 (A a.length c)) d/\Sl jn 3 w' (TR (ja::PW) w.heap.size w'.heap.size w') A a/\Mv m w w'
theorem Ax {a:Nat->Value}{j:Nat}{u:Value}(h:a j=u):eP a j u=a:=by
 funext i
 unfold eP;split
 .rename_i e;rw[e,h]
 rfl
theorem Cd {k:Int}(h:1<=k/\k<=8):gN k:=⟨by omega,by omega⟩
def Bm:Op:=Op.load 63 (Operand.tmp 79)
attribute [go_sem] Bm
theorem YJ (m:Nat)(fs:Nat->Value)(lp:Int)(G:Nat)(Ag:Option Addr)(cg:Nat)(h:Mk w m fs lp)(hf:fs 1= Ag G cg)(h3:fs 3=.slice none 0 0)(h1:1<=G)(hG:G<=1000):Calls Tryz.prog 33 #[.pointer (m,0)] w (LI w m fs lp G):=by
 have u:=h.lt;have H:=J h;have HF:=J hf;have H3:=J h3;clear h hf h3;go_enter Tryz.func33,Tryz.ntmps33
 go_wp2_with fail
 refine(aA w m fs lp 7 H (by omega) (by omega)).mono ?_;rintro e w1 ⟨n,hn,rfl,ac,ad⟩;have HI:Hid (L1 w m fs lp [] none 0 [] none 0 w1):=J ⟨by rw[show([]:List (Int×Bool)).length=0 from rfl,Ax H3.out];exact ac,World.ownsRow_nil _ _ _ _,World.ownsRow_nil _ _ _ _,ad⟩;clear ac ad H;go_wp2_with fail
 go_loopw [3,4] (λca i wr=>∃(f:List (Int×Bool)) (A:Option Addr) (c:Nat) (o:List Int) (bf:Option Addr) (K:Nat),f.length<=n/\i=.int .i64 f.length/\ca= bf o.length K/\o.length<=7/\Hid ((∀b∈f,1<=b.1/\b.1<=8)/\(∀x∈o,0<=x/\x<7)/\o.length<=f.length)/\Hid (L1 w m fs lp f A c o bf K wr)) (λ_ i _=>n - (intOf i).toNat)
 case atStart=>exact⟨[],none,0,[],none,0,nz _,rfl,rfl,by simp,J (by simp),HI⟩
 case round=>
  obtain⟨wa,rfl⟩:∃x,x=wr:=⟨_,rfl⟩
  obtain⟨f,A,c,o,bf,K,hk,rfl,rfl,aR,q,HL⟩:=hrel;by_cases bd:f.length<n
  .go_wp2_with fail
   obtain⟨Wb,WA⟩:∃Wb,wa.alloc (.cells #[.int .i64 1,.int .i64 2,.int .i64 3,.int .i64 4,.int .i64 4,.int .i64 5,.int .i64 6,.int .i64 7,.int .i64 8,.int .i64 1] aK)=Wb:=⟨_,rfl⟩
   rw[WA];have N:Hid (L1 w m fs lp f A c o bf K Wb):=by rw[<-WA];exact J (HL.below ((gD _ _).alloc (ae _) _))
   have ak:Bk Wb wa.heap.size aK #[.int .i64 1,.int .i64 2,.int .i64 3,.int .i64 4,.int .i64 4,.int .i64 5,.int .i64 6,.int .i64 7,.int .i64 8,.int .i64 1]:=by rw[<-WA];exact Bk.new _ _ _
   refine(aA Wb m (eP fs 3 (A f.length c)) lp 10 N.b (by omega) (by omega)).mono ?_;rintro e w2 ⟨x,D,rfl,al,V⟩;have ao:=(Sp.next N.b V).bk ak (by decide);obtain⟨v,hv,aW⟩:=O' x D;have qx:w2.cell? ⟨wa.heap.size,x,none⟩=some (.int .i64 v):=by rw[ao.cell];exact hv
   have O:=J (N.next al V);clear al V ak ao WA N HL hv;go_wp2_with fail
   have x5:w2.cell? (m,5)=some (A f.length c):=O.b.iB 3 (by omega) (fG _ _ _);have dh:True:=trivial;clear qx
   first|(go_region_with (go_at_call 29;have _t:=dh;refine(aA _ m (eP fs 3 (A f.length c)) lp 3 (by exact O.b) (by omega) (by omega)).mono ?_;rintro e w3 ⟨y,hy,rfl,bK,E⟩;have L:=O.drew.next bK E;have F:w3.cell? (m,5)=some (A f.length c):=L.b.iB 3 (by omega) (fG _ _ _);have a0:=L.b.lt;obtain⟨B,d,w9,I,x9,y9,z9,X⟩:=L.more u rfl (by omega) v ((y:Int)==0);have R:=J X;clear _t dh L X bK E))|fail
   all_goals
    obtain⟨W,hW⟩:∃W,w9.setCell (m,5) (B (f.length+1) d)=W:=⟨_,rfl⟩
    rw[hW]at R ⊢;clear hW I x9 y9 z9 F x5;have p:(f++[(v,((y:Int)==0))]).length=f.length+1:=by simp
    have S:Hid (∀b∈f++[(v,((y:Int)==0))],1<=b.1/\b.1<=8):=J λb T=>by
     rw[jp,js]at T;rcases T with T|rfl
     .exact q.1 b T
     exact aW
    have P:=J p;clear p;by_cases h4:v<=4
    .have a1:=R.j.size;have HO:=J R.B;go_wp2_with (at_builtin;refine jr iw rfl (.tmp 39) (.tmp 41) rfl W W.heap.size rfl w.heap.size o.length K bf (aC o) #[f.length] rfl rfl rfl HO (by simp[Value.oneCell']) (by omega) a1 ?_;intro A5 c5 w5 h5 g5 l5;have yS:=J h5;have Ai:=J g5;clear h5 g5 l5)
     have a2:=J (R.call u yS Ai);have ap:Hid ((∀b∈f++[(v,((y:Int)==0))],1<=b.1/\b.1<=8)/\(∀x∈o++[(f.length:Int)],0<=x/\x<7)/\(o++[(f.length:Int)]).length<=(f++[(v,((y:Int)==0))]).length):=J ⟨S,λx D=>by
      rw[jp,js]at D;rcases D with D|rfl
      .exact q.2.1 x D
      omega,by rw[P.out,la];have:=q.2.2;show o.length+1<=f.length+1;omega⟩
     go_roundw
     case rel=>exact⟨f++[(v,((y:Int)==0))],B,d,o++[(f.length:Int)],A5,c5,by(have:=P.out;omega),by simp,by simp,by(have:=ap.2.2;have:=P.out;omega),ap,a2⟩
     case measure=>simp[intOf];omega
    go_wp2_with fail
    go_roundw
    case rel=>exact⟨f++[(v,((y:Int)==0))],B,d,o,bf,K,by(have:=P.out;omega),by simp,rfl,aR,J ⟨S,q.2.1,by have:=q.2.2;have:=P.out;omega⟩,R⟩
    case measure=>simp[intOf];omega
  obtain rfl:n=f.length:=by omega
  have Y:Hid ((∀x∈o,N9 x)/\(∀x∈o,gN x)/\o.length<=1000):=J ⟨λx D=>by have:=q.2.1 x D;unfold N9;omega,λx D=>by have:=q.2.1 x D;unfold gN;omega,by omega⟩;have H2:Hid (L2 w m fs lp f.length A c [] [] [] f o bf K wa.heap.size wa):=J HL.two;have a3:=J q.1;clear HL q;generalize aq:f.length=n at*
  have a4:=J aq;clear aq;go_wp2_with fail
  go_loopw [6] (λi wr=>∃(dc:List Value) (j:List gH) (k:List (Int×Bool)) (Z:Nat),j.length<=n/\i=.int .i64 j.length/\Hid (j.length+k.length=n/\(∀l∈j,tU G l)/\∀b∈k,1<=b.1/\b.1<=8)/\Hid (L2 w m fs lp n A c dc j [] k o bf K Z wr)) (λi _=>n - (intOf i).toNat)
  case atStart=>exact⟨[],[],f,wa.heap.size,nz _,rfl,J ⟨(mU _).trans a4,by simp,a3⟩,H2⟩
  case round=>
   obtain⟨wb,rfl⟩:∃x,x=wr:=⟨_,rfl⟩
   obtain⟨dc,j,k,Z,hj,rfl,Q,HB⟩:=hrel;by_cases bb:j.length<n
   .obtain⟨s,M,r,rfl⟩:∃s M r,k=(s,M)::r:=by
     cases k with
     |nil=>exact absurd Q.1 (by simp;omega)
     |cons a r=>exact⟨a.1,a.2,r,rfl⟩
    have HH:=J HB.head;have z:=Q.2.2 (s,M) (by simp);simp only at z;have ar:j.length+1+r.length=n:=by have:=Q.1;simp only[aV]at this;omega
    have yT:=J ar;clear ar;have x5:wb.cell? (m,5)=some (A n c):=HH.b.iB 3 (by omega) (fG _ _ _);obtain⟨g,rfl,hg,e0,-,-,-,-,bg⟩:=HH.cells;clear HB;by_cases h7:7<=s
    .go_wp2_with fail
     have HS:=J (HH.skip (Cd z));have p:(j++[(⟨s,M,[]⟩:gH)]).length=j.length+1:=by simp
     have aa:Hid ((j++[(⟨s,M,[]⟩:gH)]).length+r.length=n/\(∀l∈j++[(⟨s,M,[]⟩:gH)],tU G l)/\∀b∈r,1<=b.1/\b.1<=8):=J ⟨by rw[p];exact yT,λl C=>by
      rw[jp,js]at C;rcases C with C|rfl
      .exact Q.2.1 l C
      exact⟨z,by simp,by simp⟩,λb T=>Q.2.2 b (List.mem_cons_of_mem _ T)⟩
     have P:=J p;clear p;go_roundw
     case rel=>exact⟨_,_,r,Z,by(have:=P.out;omega),by simp,aa,HS⟩
     case measure=>simp[intOf];omega
    go_wp2_with fail
    clear x5 e0;refine(aA wb m (eP fs 3 (.slice (g,0) n c)) lp 3 HH.b (by omega) (by omega)).mono ?_;rintro e wc ⟨x,D,rfl,av,aw⟩;have HC:=J ((HH.next u av aw).three);clear av aw HH;go_wp2_with fail
    go_loopw [8] (λi wr=>∃(t:List k') (Ar:Option Addr) (cr:Nat) (rc:List Value) (hi:Nat),t.length<=1+x/\i=.int .i64 t.length/\Hid (∀r∈t,mu G s r)/\Hid (L3 w m fs lp n (g,0) c dc j s M t Ar cr rc r o bf K wc.heap.size hi wr)) (λi _=>1+x - (intOf i).toNat)
    case atStart=>exact⟨[],none,0,[],wc.heap.size,nz _,rfl,J (by simp),HC⟩
    case round=>
     obtain⟨wd,rfl⟩:∃x,x=wr:=⟨_,rfl⟩
     obtain⟨t,Ar,cr,rc,hi,bh,rfl,ay,U⟩:=hrel;by_cases bc:t.length<1+x
     .have x5:wd.cell? (m,5)=some (.slice (g,0) n c):=U.two.b.iB 3 (by omega) (fG _ _ _);obtain⟨e0,e2,bj⟩:=U.two.iB;have bl:=U.tB;have dh:True:=trivial;go_wp2_with fail
      have aD:wd.drew.cell? (m,5)=some (.slice (g,0) n c):=x5;have aE:wd.drew.cell? (g,j.length*3)=some (.int .i64 s):=e0;have a5:wd.drew.cell? (g,j.length*3+2)=some (Ar t.length cr):=e2;rw[show Op.load 63 (Operand.tmp 79)=Bm from rfl]
      go_region_held3 (λw'=>w'.cell? (m,5)=some (.slice (g,0) n c)/\w'.cell? (g,j.length*3)=some (.int .i64 s))
       (first
        |with_reducible exact⟨aD,aE⟩
        |with_reducible exact⟨F,ab⟩
        |with_reducible exact⟨AW _ F,AW _ ab⟩
        |with_reducible exact⟨x9,aL⟩
        |with_reducible exact⟨aM,aN⟩
        |go_keep)
       (first
        |(go_at_call 76;have _t:=dh;refine(Cl _ m (eP fs 3 (.slice (g,0) n c)) lp G Ag cg s bf K (by exact U.two.b) (by exact(aZ (by decide)).trans HF) h1 hG ⟨z.1,by omega⟩ o _ _ (by exact U.two.gw Y.2.1) u Y.1 Y.2.2).mono ?_;rintro e w3 ⟨r1,B0,B1,B2,B3,B4,d0,d1,d2,d3,d4,aQ,rfl,a6,s0,s1,s2,s3,s4,bK,E⟩;have L:=U.drew.next u bK E;have F:w3.cell? (m,5)=some (.slice (g,0) n c):=L.two.b.iB 3 (by omega) (fG _ _ _);obtain⟨ab,a7,bn⟩:=L.two.iB;obtain⟨B,d,w9,bo,I,x9,aL,y9,f9,z9,X⟩:=L.more u rfl (by omega) rfl (lo:=wd.heap.size) (by omega) r1 (d0:=d0) (d1:=d1) (d2:=d2) (d3:=d3) (d4:=d4) a6 (by exact s0) (by exact s1) (by exact s2) (by exact s3) (by exact s4);have aM:(w9.setCell (g,j.length*3+2) (B (t.length+1) d)).cell? (m,5)=some (.slice (g,0) n c):=X.two.b.iB 3 (by omega) (fG _ _ _);have aN:=X.two.iB.1;have R:=J X;have a8:=J aQ;clear _t dh L X bK E s0 s1 s2 s3 s4 aQ))
      all_goals
       obtain⟨W,hW⟩:∃W,w9.setCell (g,j.length*3+2) (B (t.length+1) d)=W:=⟨_,rfl⟩
       rw[hW]at R ⊢;clear aM aN hW I x9 aL y9 f9 z9 F ab a7 x5 e0 e2 aD aE a5;have a9:Hid (∀r∈t++[r1],mu G s r):=J λr hr=>by
        rw[jp,js]at hr;rcases hr with hr|rfl
        .exact ay r hr
        exact a8
       go_wp2_with fail
       go_roundw
       case rel=>exact⟨t++[r1],B,d,_,_,by(rw[la];show t.length+1<=1+x;omega),by simp,a9,R⟩
       case measure=>simp[intOf];omega
     have HS:=J (U.fin (Cd z));have p:(j++[(⟨s,M,t⟩:gH)]).length=j.length+1:=by simp
     have aa:Hid ((j++[(⟨s,M,t⟩:gH)]).length+r.length=n/\(∀l∈j++[(⟨s,M,t⟩:gH)],tU G l)/\∀b∈r,1<=b.1/\b.1<=8):=J ⟨by rw[p];exact yT,λl C=>by
      rw[jp,js]at C;rcases C with C|rfl
      .exact Q.2.1 l C
      exact⟨z,ay,show t.length<=3 by omega⟩,λb T=>Q.2.2 b (List.mem_cons_of_mem _ T)⟩
     have P:=J p;clear p;go_wp2_with fail
     go_roundw
     case rel=>exact⟨_,_,r,_,by(have:=P.out;omega),by simp,aa,HS⟩
     case measure=>simp[intOf];omega
   obtain rfl:k=[]:=by have:=Q.1;exact List.eq_nil_of_length_eq_zero (by omega)
   obtain⟨C,hs⟩:=HB.fin;have HM:Hid (Mk wb m (eP fs 3 (A j.length c)) lp):=J (by rw[C];exact HB.b);have HV:=J HB.j;have ba:=J hs;clear hs HB C;go_wp2_with fail
   go_end0
   exact⟨j,A,c,Q.2.1,by omega,rfl,HM,ba,HV⟩
