/- Lemmas. -/
import Derived.Test.YtalehhjjbadlpaaGreatDoorMkGa
set_option linter.all false
set_option maxRecDepth 100000
set_option maxHeartbeats 32000000
namespace Go.Proofs.YtalehhjjbadlpaaGreatDoor
open Go.RowKit
section
attribute [-go_sem] Builtin.append_
theorem vp {w:World}(o:Obj){a:Addr}{v:Value}(h:w.cell? a=some v):(w.alloc o).cell? a=some v:=(jI (World.grownBy.refl w none) o).cell h (by simp)
section
variable {t:TypeId} {ops:Array Oper} {rest:List Oper} {o:Oper} {a:Act} {Q:Exit->Act->World->Prop}
theorem AJ (c:o.guard=none)(s x:Operand)(i:o.op=.call {callee:= .builtin .append,args:= #[s,x],argTypes:= #[t,t]}){d e:World}{v f g:Value}(j:a.eval s=f)(k:a.eval x=g)
  (b:(Builtin.append_ #[t,t] o.type #[f,g]).run Tryz.prog d=.ok v e) (h:wpList Tryz.prog ops Q rest (a.put o.dst v) e):wpList Tryz.prog ops Q (o::rest) a d:=by
 refine wpList_plain c λK l=> ?_
 unfold Oper.wp execOp;simp only[i,resolve,invoke,builtin,Sem.run_bind,Sem.run_pure,Result.andThen_ok,List.map_toArray,lP,p9,j,k,b];exact l _ _ h
end
theorem lI {n:Int}(h:N9 n):gN n:=by unfold N9 at h;unfold gN;omega
abbrev MQ:List TypeId:=[CE,aK,xu,xg,oQ,qj]
theorem Ws {m i:Nat}{a b c:World}{α:Type}{R:Rel α}(d:R.Ok)(f:Sp m jb a b)(e:Sp m pU b c){j:Nat}{A:Option Addr}{k:List α}{ts:List TypeId}(h:jb ∉ ts/\pU ∉ ts/\∀t∈ts,t∈MQ)(g:Sl R j a (TS ts i a) A k):Sl R j c (TR MQ i c.heap.size c) A k:=((e.sl d h.2.1 (f.sl d h.1 g)).ts d h.2.2 (ae _)).mono d (TR.sB (ae _))
theorem Kl (x:Nat)(h:x<21):N9 (IntKind.i64.wrap ((x:Int)*50)):=by rw[jj ((x:Int)*50) (by omega) (by omega)];unfold N9;omega
theorem Kf (k y:Nat)(h:k<5)(c:y<2):∃d b:Int,(#[.int .i64 1,.int .i64 0,.int .i64 1,.int .i64 1,.int .i64 3,.int .i64 0,.int .i64 4,.int .i64 0,.int .i64 2,y]:Array Value)[k*2]?=some (.int .i64 d)/\(#[.int .i64 1,.int .i64 0,.int .i64 1,.int .i64 1,.int .i64 3,.int .i64 0,.int .i64 4,.int .i64 0,.int .i64 2,y]:Array Value)[k*2+1]?=some (.int .i64 b)/\1<=d/\d<=4/\N9 b:=by
 have:k=0\/k=1\/k=2\/k=3\/k=4:=by omega
 unfold N9;rcases this with rfl|rfl|rfl|rfl|rfl<;>exact⟨_,_,rfl,rfl,by omega,by omega,by omega⟩
def VI (w:World)(m:Nat)(k:Nat->Value)(n:Nat)(h:Option Addr)(G i:Nat)(j:Nat)(b:List Value)(e:Ending)(w':World):Prop:=∃(g:hU) (c:List Value) (B:Option Addr) (d:Nat) (f:Int),rr n g/\e=.returned (.tuple #[])/\Mk w' m (eP k 1 (B (G+1) d)) f/\w'.ownsRow j jb 9 (B (G+1) d) (G+1) (b++c)/\c.length=9/\iA w' (TR [CE,aK,xu,xg,oQ,qj] w.heap.size w'.heap.size w') c g/\sb m (Value.slice h G i).ownBlock w w'
def Bb:Op:=Op.load 48 (Operand.tmp 78)
attribute [go_sem] Bb
theorem Cw (w:World)(m:Nat)(fs:Nat->Value)(lp:Int)(n G:Nat)(Ag:Option Addr)(cg cN:Nat)(ad:List Value)(Ar:Option Addr)(nr cr:Nat)(Af:Option Addr)(nf cf:Nat)(h:Mk w m fs lp)(hf:fs 1= Ag G cg)(h6:fs 6= Ar nr cr)(h7:fs 7= Af nf cf)(aw:w.ownsRow cN jb 9 (Ag G cg) G ad)(al:m<cN)(cn:cN<=w)(hn:n<10)(hG:G<=1000)(co:nr<=3)(cp:nf<=2):
  Calls Tryz.prog 31 #[.pointer (m,0),n] w (VI w m fs n Ag G cg cN ad):=by
 have S:=h.lt;have H:Hid (GI w m fs lp w):=J ⟨h,Ig m w⟩;have HF:=J hf;have H6:=J h6;have H7:=J h7;have Nh:=J aw;clear h hf h6 h7 aw;go_enter Tryz.func31,Tryz.ntmps31
 go_wp2_with fail
 refine GJ w m n fs lp H hn _ _ rfl _ _ (J ?_);intro g f b wx u10 u11 u12 u13 u14 u15 u16 u17 u18 u19 u20 u21 u22 u23 hg aD F;have HG:=J F;clear F;have q0:wx.cell? (g,0)=some (.string ([103,(97+n).toUInt8]:B)):=HG.var.cell 0;have q2:wx.cell? (g,2)=some (.bool b):=HG.var.cell 2;have f0:=HG.var.frozen 0;have f2:=HG.var.frozen 2;have zg:=HG.var.lt
 go_upto_if 25 with fail
 go_cut [4,25]from 26 to 27 (λv4 _ wy=>∃M,v4=.pointer (g,0)/\GV w m g 0 none fs lp #[.string (nX n),f,.bool M,(),(),(),(),(),()] [] none [] none [] none 0 [] none 0 [] none 0 wy)
 case first=>
  by_cases h0:n=0
  .have e0:((n:Int)==0)=true:=by simp;omega
   have en:nX n=[46,110,111,116,100,101,102]:=if_pos h0;go_wp2_with fail
   go_meet
   have k:=(HG.put S hg 0 (.string ⟨#[46,110,111,116,100,101,102]⟩)).put S hg 2 (.bool false);exact⟨false,rfl,by rw[en];exact k⟩
  have e0:((n:Int)==0)=false:=by simp;omega
  have en:nX n=[103,(97+n).toUInt8]:=if_neg h0;go_wp2_with fail
  go_meet
  exact⟨b,rfl,by rw[en];exact HG⟩
 case rest=>
 obtain⟨M,rfl,F⟩:=hcut;obtain⟨wy,rfl⟩:∃x,x=wc:=⟨_,rfl⟩
 have HY:=J F;clear F q0 q2 f0 f2 HG zg;go_wp2_with fail
 refine(YS wy m fs lp HY.b).mono ?_;rintro e w5 ⟨kq,p,s,l,c3,u,T,aE,bN,rfl,sp,se,LZ,a5⟩;have H5:=J ((HY.next LZ a5).asj HY.j.size sp se);have bO:=J aE;have cq:p.length<=10:=by have:=aE.i;omega
 have q3:w5.cell? (g,3)=some (.slice none 0 0):=H5.var.cell 3;have q4:w5.cell? (g,4)=some (.slice none 0 0):=H5.var.cell 4;have f3:=H5.var.frozen 3;have f4:=H5.var.frozen 4;have zg:=H5.var.lt;clear sp se LZ a5 aE HY
 go_upto_region 5 with fail
 obtain⟨w6,aL⟩:∃w6,(w5.setCell (g,3) (l p.length c3)).setCell (g,4) (u s.length T)=w6:=⟨_,rfl⟩
 have ao:Hid (GV w m g 0 none fs lp #[.string (nX n),f,.bool M,l p.length c3,u s.length T,(),(),(),()] p l s u [] none 0 [] none 0 [] none 0 w6):=by rw[<-aL];exact J ((H5.put S hg 3 (l p.length c3)).put S hg 4 (u s.length T))
 rw[aL];clear aL q3 q4 f3 f4 H5 zg;go_cut [37]from 31 to 36 (λbP wz=>∃q:Bool,bP=.bool q/\(q=true->2<=n)/\GV w m g 0 none fs lp #[.string (nX n),f,.bool M,l p.length c3,u s.length T,(),(),(),()] p l s u [] none 0 [] none 0 [] none 0 wz)
 case first=>
  by_cases h2:1<n
  .have e2:decide ((1:Int)<n)=true:=by simp;omega
   go_wp2_with fail
   refine(aA w6 m fs lp 4 ao.b (by omega) (by omega)).mono ?_;rintro e w7 ⟨y,hy,rfl,WG,bR⟩;go_wp2_with fail
   go_meet
   exact⟨((y:Int)==0),rfl,λ_=>by omega,ao.next WG bR⟩
  have e2:decide ((1:Int)<n)=false:=by simp;omega
  go_wp2_with fail
  go_meet
  exact⟨false,rfl,by simp,ao⟩
 case rest=>
 obtain⟨q,rfl,cs,F⟩:=hcut;obtain⟨w8,rfl⟩:∃x,x=wc:=⟨_,rfl⟩
 have H8:=J F;clear F ao
 go_upto_if 37 with fail
 go_cut [4,37]from 38 to 50 (λv4 _ wz=>v4=.pointer (g,0)/\∃(A:List Part) (C:Option Addr) (D:Nat),((∀x∈A,In 2 x.z/\N9 x.x/\N9 x.y)/\A.length<=1)/\GV w m g 0 none fs lp #[.string (nX n),f,.bool M,l p.length c3,u s.length T,C A.length D,(),(),()] p l s u A C D [] none 0 [] none 0 wz)
 case first=>
  cases q with
  |true=>
   have q5:w8.cell? (g,5)=some (.slice none 0 0):=H8.var.cell 5;have ac:g≠m:=by omega
   have dh:True:=trivial;have oG:True:=trivial;go_wp2_with fail
   go_region_with (first
    |(go_at_call 29;have _t:=dh;refine(aA _ m fs lp 9 (by exact H8.b) (by omega) (by omega)).mono ?_;rintro e Z ⟨x,hx,rfl,uX,Pm⟩;have bS:=dW Pm ac q5;clear _t dh)
    |(go_at_call 29;have _t:=oG;refine(aA _ m fs lp 5 (by exact uX) (by omega) (by omega)).mono ?_;rintro e wA ⟨y,hy,rfl,bT,a6⟩;have ct:=dW a6 ac bS;have HA:=(H8.drew.next uX Pm).next bT a6;have zA:=HA.var.lt;obtain⟨B,d,wB,j,x9,y9,z9,k9,h9⟩:=HA.arj S hg (n:=0) rfl rfl (by omega) 1 (IntKind.i64.wrap (IntKind.i64.wrap ((x:Int)*50) - 200)) (IntKind.i64.wrap ((y:Int)*50));have H9:=J h9;clear _t oG HA h9))
   all_goals
    go_wp2_with fail
    go_meet
    refine⟨rfl,[⟨1,IntKind.i64.wrap (IntKind.i64.wrap ((x:Int)*50) - 200),IntKind.i64.wrap ((y:Int)*50)⟩],B,d,⟨λz W=> ?_,by simp⟩,H9⟩;simp only[js]at W;subst W;rw[jj ((x:Int)*50) (by omega) (by omega),jj ((x:Int)*50 - 200) (by omega) (by omega),jj ((y:Int)*50) (by omega) (by omega)];exact⟨⟨show(0:Int)<=1 by decide,show(1:Int)<2 by decide⟩,show N9 ((x:Int)*50 - 200) by unfold N9;omega,show N9 ((y:Int)*50) by unfold N9;omega⟩
  |false=>
   go_wp2_with fail
   go_meet
   exact⟨rfl,[],none,0,by simp,H8⟩
 case rest=>
 obtain⟨rfl,A,C,D,a7,F⟩:=hcut;obtain⟨wD,rfl⟩:∃x,x=wc:=⟨_,rfl⟩
 have HD:=J F;have a8:=J a7;clear F H8 a7;go_wp2_with fail
 refine(aA wD m fs lp 2 HD.b (by omega) (by omega)).mono ?_;rintro e wE ⟨y,hy,rfl,a9,ba⟩;have HE:=J (HD.next a9 ba);clear a9 ba HD
 go_upto_region 8 with fail
 obtain⟨wF,aM⟩:∃wF,wE.alloc (.cells #[.int .i64 1,.int .i64 0,.int .i64 1,.int .i64 1,.int .i64 3,.int .i64 0,.int .i64 4,.int .i64 0,.int .i64 2,y] OB)=wF:=⟨_,rfl⟩
 have bV:Hid (GV w m g wE.heap.size (some #[.int .i64 1,.int .i64 0,.int .i64 1,.int .i64 1,.int .i64 3,.int .i64 0,.int .i64 4,.int .i64 0,.int .i64 2,y]) fs lp #[.string (nX n),f,.bool M,l p.length c3,u s.length T,C A.length D,(),(),()] p l s u A C D [] none 0 [] none 0 wF):=by rw[<-aM];exact J ((HE.below ((gD _ _).alloc (ae _) _)).vd (Bk.new _ _ _))
 rw[aM];clear aM HE;generalize wE.heap.size=N at*
 go_wp2_with fail
 go_loopw [6] (λi wr=>∃(k:Nat) (an:List ml) (K:Option Addr) (L:Nat),k<=5/\i=.int .i64 k/\Hid (((∀a∈an,1<=a.gd/\a.gd<=4/\N9 a.ia/\N9 a.x/\N9 a.y)/\an.length<=k))/\Hid (GV w m g N (some #[.int .i64 1,.int .i64 0,.int .i64 1,.int .i64 1,.int .i64 3,.int .i64 0,.int .i64 4,.int .i64 0,.int .i64 2,y]) fs lp #[.string (nX n),f,.bool M,l p.length c3,u s.length T,C A.length D,K an.length L,(),()] p l s u A C D an K L [] none 0 wr)) (λi _=>5 - (intOf i).toNat)
 case atStart=>exact⟨0,[],none,0,by omega,rfl,J (by simp),bV⟩
 case round=>
  obtain⟨wa,rfl⟩:∃x,x=wr:=⟨_,rfl⟩
  obtain⟨k,an,K,L,hk,rfl,aa,HL⟩:=hrel;by_cases bb:k<5
  .obtain⟨X,cl,ek,ec,bW,bX,bZ⟩:=Kf k y bb hy
   go_upto_region 11 with fail
   go_cut [77]from 59 to 100 (λb0 wz=>∃q:Bool,b0=.bool q/\GV w m g N (some #[.int .i64 1,.int .i64 0,.int .i64 1,.int .i64 1,.int .i64 3,.int .i64 0,.int .i64 4,.int .i64 0,.int .i64 2,y]) fs lp #[.string (nX n),f,.bool M,l p.length c3,u s.length T,C A.length D,K an.length L,(),()] p l s u A C D an K L [] none 0 wz)
   case first=>
    go_wp2_with fail
    refine(aA wa m fs lp 3 HL.b (by omega) (by omega)).mono ?_;rintro e wb ⟨x,hx,rfl,al,bc⟩;have I:=J (HL.next al bc);clear al bc;have xk:wb.cell? (N,k*2)=some (.int .i64 X):=by rw[(I.out.t _ rfl).cell];exact ek
    have xm:wb.cell? (g,2)=some (.bool M):=I.var.cell 2;by_cases b1:x=0
    .have e0:((x:Int)==0)=true:=by simp;omega
     by_cases h2:X=2
     .have e2:(X !=2)=false:=by simp[h2]
      go_wp2_with fail
      go_meet
      exact⟨M,rfl,I⟩
     have e2:(X !=2)=true:=by simpa using h2
     go_wp2_with fail
     go_meet
     exact⟨true,rfl,I⟩
    have e0:((x:Int)==0)=false:=by simp;omega
    go_wp2_with fail
    go_meet
    exact⟨false,rfl,I⟩
   case rest=>
   obtain⟨q,rfl,F⟩:=hcut;obtain⟨wb,rfl⟩:∃x,x=wc:=⟨_,rfl⟩
   have I:=J F;clear F HL
   go_upto_if 77 with fail
   cases q with
   |true=>
    have xk:wb.drew.cell? (N,k*2)=some (.int .i64 X):=by show wb.cell? _=_;rw[(I.out.t _ rfl).cell];exact ek
    have xc:wb.drew.cell? (N,k*2+1)=some (.int .i64 cl):=by show wb.cell? _=_;rw[(I.out.t _ rfl).cell];exact ec
    have q6:wb.cell? (g,6)=some (K an.length L):=I.var.cell 6;have ac:g≠m:=by omega
    have cu:=I.var.lt;have cv:=(I.t _ rfl).lt;have cw:=aa.2;have dh:True:=trivial;have oG:True:=trivial;go_wp2_with fail
    rw[show Op.load 48 (Operand.tmp 78)=Bb from rfl]
    go_region_held3 (λw'=>w'.cell? (N,k*2)=some (.int .i64 X)/\w'.cell? (N,k*2+1)=some (.int .i64 cl))
     (first
      |with_reducible exact⟨xk,xc⟩
      |with_reducible exact⟨bd,bf⟩
      |with_reducible exact⟨aN,aQ⟩
      |with_reducible exact⟨vp _ aN,vp _ aQ⟩
      |with_reducible exact⟨bg,bh⟩
      |with_reducible exact⟨bj,bl⟩
      |go_keep)
     (first
      |(go_at_call 29;have _t:=dh;refine(aA _ m fs lp 21 (by exact I.b) (by omega) (by omega)).mono ?_;rintro e w3 ⟨E,bm,rfl,bK,aR⟩;have bn:=dW aR ac q6;have H3:=I.drew.next bK aR;have bd:w3.cell? (N,k*2)=some (.int .i64 X):=((H3.t _ rfl).cell _).trans ek;have bf:w3.cell? (N,k*2+1)=some (.int .i64 cl):=((H3.t _ rfl).cell _).trans ec;have cx:=H3.var.lt;clear _t dh H3)
      |(go_at_call 29;have _t:=oG;refine(aA _ m fs lp 21 (by exact bK) (by omega) (by omega)).mono ?_;rintro e w4 ⟨U,bo,rfl,b2,bp⟩;have b3:=dW bp ac bn;have H4:=(I.drew.next bK aR).next b2 bp;have aN:w4.cell? (N,k*2)=some (.int .i64 X):=((H4.t _ rfl).cell _).trans ek;have aQ:w4.cell? (N,k*2+1)=some (.int .i64 cl):=((H4.t _ rfl).cell _).trans ec;have cy:=H4.var.lt;obtain⟨B,d,Z,j,x9,y9,z9,k9,h9⟩:=H4.ari S hg (n:=an.length) rfl rfl (by omega) X cl (IntKind.i64.wrap ((E:Int)*50)) (IntKind.i64.wrap (IntKind.i64.wrap ((U:Int)*50) - 200));have bg:Z.cell? (N,k*2)=some (.int .i64 X):=((k9 _ rfl).cell _).trans ek;have bh:Z.cell? (N,k*2+1)=some (.int .i64 cl):=((k9 _ rfl).cell _).trans ec;have bj:(Z.setCell (g,6) (B (an.length+1) d)).cell? (N,k*2)=some (.int .i64 X):=((h9.t _ rfl).cell _).trans ek;have bl:(Z.setCell (g,6) (B (an.length+1) d)).cell? (N,k*2+1)=some (.int .i64 cl):=((h9.t _ rfl).cell _).trans ec;have H9:=J h9;clear _t oG H4 h9))
    all_goals
     have O:(an++[(⟨X,cl,IntKind.i64.wrap ((E:Int)*50),IntKind.i64.wrap (IntKind.i64.wrap ((U:Int)*50) - 200)⟩:ml)]).length=an.length+1:=by simp
     have b6:Hid ((∀a∈an++[(⟨X,cl,IntKind.i64.wrap ((E:Int)*50),IntKind.i64.wrap (IntKind.i64.wrap ((U:Int)*50) - 200)⟩:ml)],1<=a.gd/\a.gd<=4/\N9 a.ia/\N9 a.x/\N9 a.y)/\(an++[(⟨X,cl,IntKind.i64.wrap ((E:Int)*50),IntKind.i64.wrap (IntKind.i64.wrap ((U:Int)*50) - 200)⟩:ml)]).length<=k+1):=J ⟨λa ha=>by
      rw[jp,js]at ha;rcases ha with ha|rfl
      .exact aa.1 a ha
      exact⟨bW,bX,bZ,(Kl E bm),(NU U bo).2⟩,by rw[O];omega⟩
     have ZP:Hid (GV w m g N (some #[.int .i64 1,.int .i64 0,.int .i64 1,.int .i64 1,.int .i64 3,.int .i64 0,.int .i64 4,.int .i64 0,.int .i64 2,y]) fs lp #[.string (nX n),f,.bool M,l p.length c3,u s.length T,C A.length D,B (an++[(⟨X,cl,IntKind.i64.wrap ((E:Int)*50),IntKind.i64.wrap (IntKind.i64.wrap ((U:Int)*50) - 200)⟩:ml)]).length d,(),()] p l s u A C D (an++[(⟨X,cl,IntKind.i64.wrap ((E:Int)*50),IntKind.i64.wrap (IntKind.i64.wrap ((U:Int)*50) - 200)⟩:ml)]) B d [] none 0 (Z.setCell (g,6) (B (an.length+1) d))):=by rw[O];exact H9
     clear xk xc bd bf aN aQ bg bh bj bl q6 bn b3 O H9 j x9 y9 z9 k9;go_wp2_with fail
     go_roundw
     case rel=>exact⟨k+1,an++[(⟨X,cl,IntKind.i64.wrap ((E:Int)*50),IntKind.i64.wrap (IntKind.i64.wrap ((U:Int)*50) - 200)⟩:ml)],B,d,by omega,by simp,b6,ZP⟩
     case measure=>simp[intOf];omega
   |false=>
    go_wp2_with fail
    go_roundw
    case rel=>exact⟨k+1,an,K,L,by omega,by simp,J ⟨aa.1,by have:=aa.2;omega⟩,I⟩
    case measure=>simp[intOf];omega
  have x8:wa.cell? (m,8)=some (Ar nr cr):=HL.b.iB 6 (by omega) H6;have vO:Hid ((∀a∈an,1<=a.gd/\a.gd<=4/\N9 a.ia/\N9 a.x/\N9 a.y)/\an.length<=5):=J ⟨aa.1,nt aa.2 hk⟩;clear aa;go_wp2_with fail
  go_loopw [7] (λi wr=>∃(r:Nat) (c:List Delta) (P:Option Addr) (R:Nat),r<=nr/\i=.int .i64 r/\Hid ((∀d∈c,N9 d.region/\N9 d.ii/\N9 d.x/\N9 d.y)/\c.length<=11*r)/\Hid (GV w m g N (some #[.int .i64 1,.int .i64 0,.int .i64 1,.int .i64 1,.int .i64 3,.int .i64 0,.int .i64 4,.int .i64 0,.int .i64 2,y]) fs lp #[.string (nX n),f,.bool M,l p.length c3,u s.length T,C A.length D,K an.length L,P c.length R,()] p l s u A C D an K L c P R wr)) (λi _=>nr - (intOf i).toNat)
  case atStart=>exact⟨0,[],none,0,nz _,rfl,J (by simp),HL⟩
  case round=>
   obtain⟨wb,rfl⟩:∃x,x=wr:=⟨_,rfl⟩
   obtain⟨r,c,P,R,hr,rfl,cM,I⟩:=hrel;have x8:wb.cell? (m,8)=some (Ar nr cr):=I.b.iB 6 (by omega) H6;by_cases bb:r<nr
   .have x3:wb.cell? (g,3)=some (l p.length c3):=I.var.cell 3;go_wp2_with fail
    go_loopw [8] (λi wr=>∃(v:Nat) (c:List Delta) (P:Option Addr) (R:Nat),v<=p.length+1/\i=.int .i64 ((v:Int) - 1)/\Hid ((∀d∈c,N9 d.region/\N9 d.ii/\N9 d.x/\N9 d.y)/\c.length<=11*r+v)/\Hid (GV w m g N (some #[.int .i64 1,.int .i64 0,.int .i64 1,.int .i64 1,.int .i64 3,.int .i64 0,.int .i64 4,.int .i64 0,.int .i64 2,y]) fs lp #[.string (nX n),f,.bool M,l p.length c3,u s.length T,C A.length D,K an.length L,P c.length R,()] p l s u A C D an K L c P R wr)) (λi _=>(p.length - intOf i).toNat)
    case atStart=>exact⟨0,c,P,R,nz _,rfl,cM,I⟩
    case round=>
     obtain⟨wd,rfl⟩:∃x,x=wr:=⟨_,rfl⟩
     clear x8 x3 cM I;obtain⟨v,c,P,R,cz,rfl,cM,HD⟩:=hrel;have x3:wd.cell? (g,3)=some (l p.length c3):=HD.var.cell 3;by_cases ck:v<p.length+1
     .go_wp2_with fail
      refine(aA wd m fs lp 3 HD.b (by omega) (by omega)).mono ?_;rintro e we ⟨x,hx,rfl,bq,br⟩;have HE:=J (HD.next bq br);clear bq br x3;by_cases b1:x=0
      .have e0:((x:Int)==0)=true:=by simp;omega
       have cA:=cM.2;go_wp2_with fail
       refine(aA we m fs lp 41 HE.b (by omega) (by omega)).mono ?_;rintro e wf ⟨E,bm,rfl,bs,bv⟩;have KD:=J (HE.next bs bv);clear bs bv HE;by_cases bw:v=0
       .have e1:decide ((1:Int)<=(v:Int))=false:=by simp;omega
        clear bw;have HW:=J (KD.below ((gD wf.heap.size wf).alloc (ae _) (.cells #[r,.int .i64 ((v:Int) - 1),.int .i64 ((E:Int) - 20),.int .i64 0] oQ)));have x7:wf.cell? (g,7)=some (P c.length R):=KD.var.cell 7;have cB:=KD.var.lt;have b7:¬(g=wf.heap.size):=by omega
        obtain⟨B,d,Z,j,x9,y9,z9,k9,h9⟩:=HW.BB S hg (n:=c.length) rfl rfl (by omega) (r:Int) ((v:Int) - 1) ((E:Int) - 20) 0;rw[World.size_alloc]at j;clear KD HW;have H9:=J h9;have O:(c++[(⟨(r:Int),(v:Int) - 1,(E:Int) - 20,0⟩:Delta)]).length=c.length+1:=by simp
        have a0:Hid ((∀d∈c++[(⟨(r:Int),(v:Int) - 1,(E:Int) - 20,0⟩:Delta)],N9 d.region/\N9 d.ii/\N9 d.x/\N9 d.y)/\(c++[(⟨(r:Int),(v:Int) - 1,(E:Int) - 20,0⟩:Delta)]).length<=11*r+(v+1)):=J ⟨λz W=>by
         rw[jp,js]at W;rcases W with W|rfl
         .exact cM.1 z W
         exact⟨show N9 (r:Int) by unfold N9;omega,show N9 ((v:Int) - 1) by unfold N9;omega,show N9 ((E:Int) - 20) by unfold N9;omega,show N9 (0) by unfold N9;omega⟩,by rw[O];omega⟩
        have ZP:Hid (GV w m g N (some #[.int .i64 1,.int .i64 0,.int .i64 1,.int .i64 1,.int .i64 3,.int .i64 0,.int .i64 4,.int .i64 0,.int .i64 2,y]) fs lp #[.string (nX n),f,.bool M,l p.length c3,u s.length T,C A.length D,K an.length L,B (c++[(⟨(r:Int),(v:Int) - 1,(E:Int) - 20,0⟩:Delta)]).length d,()] p l s u A C D an K L (c++[(⟨(r:Int),(v:Int) - 1,(E:Int) - 20,0⟩:Delta)]) B d (Z.setCell (g,7) (B (c.length+1) d))):=by rw[O];exact H9
        clear O h9 H9 k9;go_wp2_with (at_builtin;refine AJ rfl (.tmp 135) (.tmp 137) rfl rfl rfl j ?_;clear j)
        go_roundw
        case rel=>exact⟨v+1,c++[(⟨(r:Int),(v:Int) - 1,(E:Int) - 20,0⟩:Delta)],B,d,by omega,by simp,a0,ZP⟩
        case measure=>simp[intOf];omega
       have e1:decide ((1:Int)<=(v:Int))=true:=by simp;omega
       clear bw;go_wp2_with fail
       obtain⟨W1,ap⟩:∃W1,wf.alloc (.cells #[r,.int .i64 ((v:Int) - 1),.int .i64 ((E:Int) - 20),.int .i64 0] oQ)=W1:=⟨_,rfl⟩
       have aq:Hid (GV w m g N (some #[.int .i64 1,.int .i64 0,.int .i64 1,.int .i64 1,.int .i64 3,.int .i64 0,.int .i64 4,.int .i64 0,.int .i64 2,y]) fs lp #[.string (nX n),f,.bool M,l p.length c3,u s.length T,C A.length D,K an.length L,P c.length R,()] p l s u A C D an K L c P R W1):=by rw[<-ap];exact J (KD.below ((gD _ _).alloc (ae _) _))
       have b4:Bk W1 wf.heap.size oQ #[r,.int .i64 ((v:Int) - 1),.int .i64 ((E:Int) - 20),.int .i64 0]:=by rw[<-ap];exact Bk.new _ _ _
       have b8:=KD.P;have b7:¬(g=wf.heap.size):=by have:=KD.var.lt;omega
       have b9:=KD.j.size;rw[ap];clear ap KD;refine(aA W1 m fs lp 41 aq.b (by omega) (by omega)).mono ?_;rintro e wg ⟨U,bo,rfl,bx,zH⟩;have b5:=(Sp.next aq.b zH).bk b4 (by decide);have ar:=J (aq.next bx zH);have d3:wg.cell? (wf,3)=some (.int .i64 0):=b5.cell 3;have y3:=b5.frozen 3;have cC:=b5.lt;clear bx zH aq b4;have x7:wg.cell? (g,7)=some (P c.length R):=ar.var.cell 7;have d0:wg.cell? (wf,0)=some (.int .i64 r):=b5.cell 0;have d1:wg.cell? (wf,1)=some (.int .i64 ((v:Int) - 1)):=b5.cell 1;have d2:wg.cell? (wf,2)=some (.int .i64 ((E:Int) - 20)):=b5.cell 2;have cD:=ar.var.lt;have HW:=J (ar.box S b5 (λx hx=>(b8.lt x hx).2) b9 3 (.int .i64 ((U:Int) - 20)));obtain⟨B,d,Z,j,x9,y9,z9,k9,h9⟩:=HW.BB S hg (n:=c.length) rfl rfl (by omega) (r:Int) ((v:Int) - 1) ((E:Int) - 20) ((U:Int) - 20);rw[World.size_setCell]at j;clear b5 ar HW;have H9:=J h9;have O:(c++[(⟨(r:Int),(v:Int) - 1,(E:Int) - 20,(U:Int) - 20⟩:Delta)]).length=c.length+1:=by simp
       have a0:Hid ((∀d∈c++[(⟨(r:Int),(v:Int) - 1,(E:Int) - 20,(U:Int) - 20⟩:Delta)],N9 d.region/\N9 d.ii/\N9 d.x/\N9 d.y)/\(c++[(⟨(r:Int),(v:Int) - 1,(E:Int) - 20,(U:Int) - 20⟩:Delta)]).length<=11*r+(v+1)):=J ⟨λz W=>by
        rw[jp,js]at W;rcases W with W|rfl
        .exact cM.1 z W
        exact⟨show N9 (r:Int) by unfold N9;omega,show N9 ((v:Int) - 1) by unfold N9;omega,show N9 ((E:Int) - 20) by unfold N9;omega,show N9 ((U:Int) - 20) by unfold N9;omega⟩,by rw[O];omega⟩
       have ZP:Hid (GV w m g N (some #[.int .i64 1,.int .i64 0,.int .i64 1,.int .i64 1,.int .i64 3,.int .i64 0,.int .i64 4,.int .i64 0,.int .i64 2,y]) fs lp #[.string (nX n),f,.bool M,l p.length c3,u s.length T,C A.length D,K an.length L,B (c++[(⟨(r:Int),(v:Int) - 1,(E:Int) - 20,(U:Int) - 20⟩:Delta)]).length d,()] p l s u A C D an K L (c++[(⟨(r:Int),(v:Int) - 1,(E:Int) - 20,(U:Int) - 20⟩:Delta)]) B d (Z.setCell (g,7) (B (c.length+1) d))):=by rw[O];exact H9
       clear O h9 H9 k9;go_wp2_with (at_builtin;refine AJ rfl (.tmp 135) (.tmp 137) rfl rfl rfl j ?_;clear j)
       go_roundw
       case rel=>exact⟨v+1,c++[(⟨(r:Int),(v:Int) - 1,(E:Int) - 20,(U:Int) - 20⟩:Delta)],B,d,by omega,by simp,a0,ZP⟩
       case measure=>simp[intOf];omega
      have e0:((x:Int)==0)=false:=by simp;omega
      go_wp2_with fail
      go_roundw
      case rel=>exact⟨v+1,c,P,R,by omega,by simp,J ⟨cM.1,by have:=cM.2;omega⟩,HE⟩
      case measure=>simp[intOf];omega
     obtain rfl:v=p.length+1:=by omega
     go_wp2_with fail
     go_roundw
     case rel=>exact⟨r+1,c,P,R,by omega,by simp,J ⟨cM.1,by have:=cM.2;omega⟩,HD⟩
     case measure=>simp[intOf];omega
   have ca:wb.cell? (m,11)=some (.int .i64 lp):=I.b.cells.2;have cb:=I.b.frozen 11;have zm:=I.b.lt;have a1:Hid ((∀d∈c,N9 d.region/\N9 d.ii/\N9 d.x/\N9 d.y)/\c.length<=40):=J ⟨cM.1,by have:=cM.2;omega⟩;have cE:=a1.2
   go_upto_region 25 with fail
   have HC:Hid (GV w m g N (some #[.int .i64 1,.int .i64 0,.int .i64 1,.int .i64 1,.int .i64 3,.int .i64 0,.int .i64 4,.int .i64 0,.int .i64 2,y]) fs 2 #[.string (nX n),f,.bool M,l p.length c3,u s.length T,C A.length D,K an.length L,P c.length R,()] p l s u A C D an K L c P R (wb.setCell (m,11) (.int .i64 2))):=J (I.next (I.b.loops 2) (I.b.tF 11 _));obtain⟨wq,bz⟩:∃wq,wb.setCell (m,11) (.int .i64 2)=wq:=⟨_,rfl⟩
   rw[bz]at HC ⊢;clear bz ca cb x8 I cM;have x3:wq.cell? (g,3)=some (l p.length c3):=HC.var.cell 3;have cc:wq.cell? (m,9)=some (Af nf cf):=HC.b.iB 7 (by omega) H7;have cd:=HC.var.lt;have ac:g≠m:=by omega
   have dh:True:=trivial
   go_region_with (go_at_call 30;have _t:=dh;refine(WC _ m fs 2 p.length nf 6 (by exact HC.b) (by omega) (by omega) (by omega) (by omega) (by omega)).mono ?_;rintro e wr ⟨hi,Ah,ch,bA,ce,cF,cG,rfl,cm,bB,bE,bH⟩;have HR:=HC.drew.next bE bH;have q8:wr.cell? (g,8)=some (.slice none 0 0):=HR.var.cell 8;have f8:=HR.var.frozen 8;have ci:=HR.var.lt;have a2:=J HR;have bL:=J bB;have cj:=J ce;clear _t dh HR bE bH bB)
   all_goals
    have HT:Hid (GV w m g N (some #[.int .i64 1,.int .i64 0,.int .i64 1,.int .i64 1,.int .i64 3,.int .i64 0,.int .i64 4,.int .i64 0,.int .i64 2,y]) fs bA #[.string (nX n),f,.bool M,l p.length c3,u s.length T,C A.length D,K an.length L,P c.length R,Ah hi.length ch] p l s u A C D an K L c P R (wr.setCell (g,8) (Ah hi.length ch))):=J (a2.put S hg 8 _);have a3:Hid (Sl ky 2 (wr.setCell (g,8) (Ah hi.length ch)) (TS [qj] w.heap.size (wr.setCell (g,8) (Ah hi.length ch))) Ah hi):=J ((Sp.set (m:=m) a2.var (by omega) 8 (Ah hi.length ch)).sl ky.ok (by decide) (bL.ts ky.ok (λ_ h=>h) (by have:=HC.j.size;exact this)));obtain⟨V,bM⟩:∃V,wr.setCell (g,8) (Ah hi.length ch)=V:=⟨_,rfl⟩
    try go_upto_region 26 with fail
    rw[bM]at HT a3 ⊢;clear bM q8 f8 ci a2 bL x3 cc cd HC;have av:=HT.j;have a4:=J (De Nh av al);have cH:=av.size;have x0:V.cell? (g,0)=some (.string (nX n)):=HT.var.cell 0;have E:V.cell? (g,1)=some (.int .i64 f):=HT.var.cell 1;have U:V.cell? (g,2)=some (.bool M):=HT.var.cell 2;have x3:V.cell? (g,3)=some (l p.length c3):=HT.var.cell 3;have x4:V.cell? (g,4)=some (u s.length T):=HT.var.cell 4;have x5:V.cell? (g,5)=some (C A.length D):=HT.var.cell 5;have x6:V.cell? (g,6)=some (K an.length L):=HT.var.cell 6;have x7:V.cell? (g,7)=some (P c.length R):=HT.var.cell 7;have x8:V.cell? (g,8)=some (Ah hi.length ch):=HT.var.cell 8;have xm:V.cell? (m,3)=some (Ag G cg):=HT.b.iB 1 (by omega) HF;have cJ:=HT.var.lt;have cK:=HT.b.lt;obtain⟨B,d,Z,j,aW,ay,bF⟩:=dJ Ht 24 V.drew cN _ cg Ag _ #[.string (nX n),f,.bool M,l p.length c3,u s.length T,C A.length D,K an.length L,P c.length R,Ah hi.length ch] rfl (show V.drew.ownsRow cN jb 9 (Ag G cg) G ad from a4.out) (by simp[Value.oneCell']) (by omega) (show cN<=V.heap.size by omega);have ab:=HT.drew;have s9:Sp m jb V.drew Z:=Sp.push (show V.drew.ownsRow cN jb 9 (Ag G cg) G ad from a4.out) (by omega) ay;have rP:=s9.mk ab.b (by decide);have cL:Z.cell? (m,3)=some (Ag G cg):=rP.iB 1 (by omega) HF;have f9:=rP.frozen 3;have z9:=rP.lt;have Y:=rP.sp 3 (B (G+1) d);have Yw:(Builtin.append_ #[24,24] 24 #[Ag G cg,.slice (some ⟨V.heap.size,0,none⟩) 1 1]).run Tryz.prog (V.alloc (.cells #[.string (nX n),f,.bool M,l p.length c3,u s.length T,C A.length D,K an.length L,P c.length R,Ah hi.length ch] jb)).drew=.ok (B (G+1) d) Z:=j;have ak:VI w m fs n Ag G cg cN ad (.returned (.tuple #[])) (Z.setCell (m,3) (B (G+1) d)):=by
     refine⟨⟨nX n,f,M,p,s,A,an,c,hi⟩,[.string (nX n),.int .i64 f,.bool M,l p.length c3,u s.length T,C A.length D,K an.length L,P c.length R,Ah hi.length ch],B,d,bA,rr.make hn aD bO bN a8 vO a1 ⟨cj,by omega⟩,rfl,rP.put 1 (by omega) _,Y.own aW (by decide),rfl,?_,?_⟩
     .refine⟨l,c3,u,T,C,D,K,L,P,R,Ah,ch,rfl,lI aD,Ws lr.ok s9 Y (by decide) ab.h,Ws gS.ok s9 Y (by decide) ab.gO,Ws lS.ok s9 Y (ts:=[xu]) (by decide) (dV ab.R (I2 _ _ _ λz W=> ?_) (by simp) (ae _) (by omega)),Ws mc.ok s9 Y (ts:=[xg]) (by decide) (dV ab.Q (G' _ _ _ λz W=> ?_) (by simp) (ae _) (by omega)),Ws md.ok s9 Y (ts:=[oQ]) (by decide) (dV ab.P (Gr _ _ _ λz W=> ?_) (by simp) (ae _) (by omega)),Ws ky.ok s9 Y (ts:=[qj]) (by decide) a3⟩
      .have h:=a8.1 z W;exact⟨⟨by have:=h.1.1;omega,by have:=h.1.2;omega⟩,lI h.2.1,lI h.2.2⟩
      .have h:=vO.1 z W;exact⟨⟨by omega,by omega⟩,lI h.2.2.1,lI h.2.2.2.1,lI h.2.2.2.2⟩
      have h:=a1.1 z W;exact⟨lI h.1,lI h.2.1,lI h.2.2.1,lI h.2.2.2⟩
     exact(((lq av (gD _ _).drew).two (row:=(Value.slice Ag G cg).ownBlock)).step ay (λx hx=> .inr (.inr hx))).step (rP.tF 3 _) (λx hx=>by injection hx with hx;exact .inr (.inl hx.symm))
    have KH:=J ak;clear ak s9 Y rP ab aW ay bF j av a4 a3;go_wp2_with fail
    go_region
    all_goals
     go_end0
     exact KH
