/- fleuronref07: the maker's glyph. -/
import Derived.Test.YtkijckccfookeaaGreatDoorMkGa
set_option linter.unusedVariables false
set_option linter.unusedSimpArgs false
set_option maxRecDepth 100000
set_option maxHeartbeats 32000000
namespace Go.Proofs.YtkijckccfookeaaGreatDoor
open Go.RowKit
attribute [-go_sem] Builtin.append_
theorem alc {w:World}(o:Obj){a:Addr}{v:Value}(h:w.cell? a=some v):(w.alloc o).cell? a=some v:=(iZ (World.grownBy.refl w none) o).cell h (by simp)
section
variable {t:TypeId} {ops:Array Oper} {rest:List Oper} {o:Oper} {a:Act} {Q:Exit->Act->World->Prop}
theorem aa7 (hgd:o.guard=none)(s x:Operand)(ho:o.op= .call {callee:= .builtin .append,args:= #[s,x],argTypes:= #[t,t]}){w1 w9:World}{v sv xv:Value}(hs:a.eval s=sv)(hx:a.eval x=xv)
  (hrun:(Builtin.append_ #[t,t] o.type #[sv,xv]).run Tryz.prog w1= .ok v w9) (h:wpList Tryz.prog ops Q rest (a.put o.dst v) w9):wpList Tryz.prog ops Q (o::rest) a w1:=by
 refine wpList_plain hgd fun K hK=> ?_
 unfold Oper.wp execOp;simp only[ho,resolve,invoke,builtin,Sem.run_bind,Sem.run_pure,Result.andThen_ok,List.map_toArray,anE,aoi,hs,hx,hrun];exact hK _ _ h
end
theorem kC {n:Int}(h:N9 n):I64 n:=by unfold N9 at h;unfold I64;omega
abbrev Hl:List TypeId:=[yI,aQ,vJ,vV,nN,pz]
theorem Q7 {m base:Nat}{a b c:World}{α:Type}{R:Rel α}(ok:R.Ok)(s9:Sp m jB a b)(s10:Sp m mQ b c){size:Nat}{A:Option Addr}{xs:List α}{ts:List TypeId}(h:jB ∉ ts/\mQ ∉ ts/\∀t∈ts,t∈Hl)(hs:Sl R size a (TS ts base a) A xs):Sl R size c (TR Hl base c.heap.size c) A xs:=((s10.sl ok h.2.1 (s9.sl ok h.1 hs)).ts ok h.2.2 (af _)).mono ok (TR.amb (af _))
theorem ZT (x:Nat)(h:x<21):N9 (IntKind.i64.wrap ((x:Int)*50)):=by rw[wrap_in ((x:Int)*50) (by omega) (by omega)];unfold N9;omega
theorem ZX (k y:Nat)(h:k<5)(hy:y<2):∃kd cl:Int,(#[.int .i64 1,.int .i64 0,.int .i64 1,.int .i64 1,.int .i64 3,.int .i64 0,.int .i64 4,.int .i64 0,.int .i64 2,.int .i64 y]:Array Value)[k*2]? =some (.int .i64 kd)/\(#[.int .i64 1,.int .i64 0,.int .i64 1,.int .i64 1,.int .i64 3,.int .i64 0,.int .i64 4,.int .i64 0,.int .i64 2,.int .i64 y]:Array Value)[k*2+1]? =some (.int .i64 cl)/\1<=kd/\kd<=4/\N9 cl:=by
 have:k=0\/k=1\/k=2\/k=3\/k=4:=by omega
 unfold N9;rcases this with rfl|rfl|rfl|rfl|rfl<;>exact⟨_,_,rfl,rfl,by omega,by omega,by omega⟩
def Ro (w:World)(m:Nat)(fs:Nat->Value)(n:Nat)(Ag:Option Addr)(G cg:Nat)(base:Nat)(gcs:List Value)(e:Ending)(w':World):Prop:=∃(g:akN) (nc:List Value) (B:Option Addr) (d:Nat) (lp':Int),alW n g/\e= .returned (.tuple #[])/\Mk w' m (dR fs 1 (.slice B (G+1) d)) lp'/\w'.ownsRow base jB 9 (.slice B (G+1) d) (G+1) (gcs++nc)/\nc.length=9/\akQ w' (TR [yI,aQ,vJ,vV,nN,pz] w.heap.size w'.heap.size w') nc g/\Mv2 m (Value.slice Ag G cg).ownBlock w w'
def ac6:Op:=Op.load 55 (Operand.tmp 78)
attribute [go_sem] ac6
theorem X5 (w:World)(m:Nat)(fs:Nat->Value)(lp:Int)(n G:Nat)(Ag:Option Addr)(cg base:Nat)(gcs:List Value)(Ar:Option Addr)(nr cr:Nat)(Af:Option Addr)(nf cf:Nat)(h:Mk w m fs lp)(hf:fs 1= .slice Ag G cg)(h6:fs 6= .slice Ar nr cr)(h7:fs 7= .slice Af nf cf)(hrow:w.ownsRow base jB 9 (.slice Ag G cg) G gcs)(hmb:m<base)(hbz:base<=w.heap.size)(hn:n<10)(hG:G<=1000)(hnr:nr<=3)(hnf:nf<=2):
  Calls Tryz.prog 61 #[.pointer (some ⟨m,0,none⟩),.int .i64 n] w (Ro w m fs n Ag G cg base gcs):=by
 have hmw:=h.lt;have H:Hid (GI w m fs lp w):=hd0 ⟨h,DJ m w⟩;have HF:=hd0 hf;have H6:=hd0 h6;have H7:=hd0 h7;have IC:=hd0 hrow;clear h hf h6 h7 hrow;go_enter Tryz.func61,Tryz.ntmps61
 go_wp2_with fail
 refine aaR w m n fs lp H hn _ _ rfl _ _ (hd0 ?_);intro g adv b wx u10 u11 u12 u13 u14 u15 u16 u17 u18 u19 u20 u21 u22 u23 hg hadv hgv;have HG:=hd0 hgv;clear hgv;have q0:wx.cell? ⟨g,0,none⟩=some (.string ⟨([103,(97+n).toUInt8]:B).toArray⟩):=HG.out.var.cell 0;have q2:wx.cell? ⟨g,2,none⟩=some (.bool b):=HG.out.var.cell 2;have f0:=HG.out.var.frozen 0;have f2:=HG.out.var.frozen 2;have zg:=HG.out.var.lt
 go_upto_if 25 with fail
 go_cut [4,25] from 26 to 27 (fun v4 _ wy=>∃mk,v4= .pointer (some ⟨g,0,none⟩)/\GV w m g 0 none fs lp #[.string ⟨(lW n).toArray⟩,.int .i64 adv,.bool mk,.slice none 0 0,.slice none 0 0,.slice none 0 0,.slice none 0 0,.slice none 0 0,.slice none 0 0] [] none [] none [] none 0 [] none 0 [] none 0 wy)
 case first=>
  by_cases h0:n=0
  ·have e0:((n:Int)==0)=true:=by simp;omega
   have en:lW n=[46,110,111,116,100,101,102]:=if_pos h0;go_wp2_with fail
   go_meet
   have k:=(HG.out.put hmw hg 0 (.string ⟨#[46,110,111,116,100,101,102]⟩)).put hmw hg 2 (.bool false);exact⟨false,rfl,by rw[en];exact k⟩
  have e0:((n:Int)==0)=false:=by simp;omega
  have en:lW n=[103,(97+n).toUInt8]:=if_neg h0;go_wp2_with fail
  go_meet
  exact⟨b,rfl,by rw[en];exact HG.out⟩
 case rest=>
 obtain⟨mk,rfl,hgv⟩:=hcut;obtain⟨wy,rfl⟩:∃x,x=wc:=⟨_,rfl⟩
 have HY:=hd0 hgv;clear hgv q0 q2 f0 f2 HG zg;go_wp2_with fail
 refine(SK wy m fs lp HY.out.mkr).mono ?_;rintro e w5 ⟨kq,p,es,A3,c3,A4,c4,hok,hk2,rfl,sp,se,Ii,hv5⟩;have H5:=hd0 ((HY.out.next Ii hv5).anp HY.out.mv.size sp se);have HOK:=hd0 hok;have hpl:p.length<=10:=by have:=hok.few;omega
 have q3:w5.cell? ⟨g,3,none⟩=some (.slice none 0 0):=H5.out.var.cell 3;have q4:w5.cell? ⟨g,4,none⟩=some (.slice none 0 0):=H5.out.var.cell 4;have f3:=H5.out.var.frozen 3;have f4:=H5.out.var.frozen 4;have zg:=H5.out.var.lt;clear sp se Ii hv5 hok HY
 go_upto_region 5 with fail
 obtain⟨w6,hw6⟩:∃w6,(w5.setCell ⟨g,3,none⟩ (.slice A3 p.length c3)).setCell ⟨g,4,none⟩ (.slice A4 es.length c4)=w6:=⟨_,rfl⟩
 have H6':Hid (GV w m g 0 none fs lp #[.string ⟨(lW n).toArray⟩,.int .i64 adv,.bool mk,.slice A3 p.length c3,.slice A4 es.length c4,.slice none 0 0,.slice none 0 0,.slice none 0 0,.slice none 0 0] p A3 es A4 [] none 0 [] none 0 [] none 0 w6):=by rw[<-hw6];exact hd0 ((H5.out.put hmw hg 3 (.slice A3 p.length c3)).put hmw hg 4 (.slice A4 es.length c4))
 rw[hw6];clear hw6 q3 q4 f3 f4 H5 zg;go_cut [37] from 31 to 36 (fun v37 wz=>∃q:Bool,v37= .bool q/\(q=true->2<=n)/\GV w m g 0 none fs lp #[.string ⟨(lW n).toArray⟩,.int .i64 adv,.bool mk,.slice A3 p.length c3,.slice A4 es.length c4,.slice none 0 0,.slice none 0 0,.slice none 0 0,.slice none 0 0] p A3 es A4 [] none 0 [] none 0 [] none 0 wz)
 case first=>
  by_cases h2:1<n
  ·have e2:decide ((1:Int)<n)=true:=by simp;omega
   go_wp2_with fail
   refine(az w6 m fs lp 4 H6'.out.mkr (by omega) (by omega)).mono ?_;rintro e w7 ⟨y,hy,rfl,QD,hv7⟩;go_wp2_with fail
   go_meet
   exact⟨((y:Int)==0),rfl,fun _=>by omega,H6'.out.next QD hv7⟩
  have e2:decide ((1:Int)<n)=false:=by simp;omega
  go_wp2_with fail
  go_meet
  exact⟨false,rfl,by simp,H6'.out⟩
 case rest=>
 obtain⟨q,rfl,hq2,hgv⟩:=hcut;obtain⟨w8,rfl⟩:∃x,x=wc:=⟨_,rfl⟩
 have H8:=hd0 hgv;clear hgv H6'
 go_upto_if 37 with fail
 go_cut [4,37] from 38 to 50 (fun v4 _ wz=>v4= .pointer (some ⟨g,0,none⟩)/\∃(pa:List Part) (A5:Option Addr) (c5:Nat),((∀x∈pa,In 2 x.akY/\N9 x.x/\N9 x.y)/\pa.length<=1)/\GV w m g 0 none fs lp #[.string ⟨(lW n).toArray⟩,.int .i64 adv,.bool mk,.slice A3 p.length c3,.slice A4 es.length c4,.slice A5 pa.length c5,.slice none 0 0,.slice none 0 0,.slice none 0 0] p A3 es A4 pa A5 c5 [] none 0 [] none 0 wz)
 case first=>
  cases q with
  |true=>
   have q5:w8.cell? ⟨g,5,none⟩=some (.slice none 0 0):=H8.out.var.cell 5;have hgm:g≠m:=by omega
   have bQ:True:=trivial;have gp:True:=trivial;go_wp2_with fail
   go_region_with (first
    |(go_at_call 59;have _t:=bQ;refine(az _ m fs lp 9 (by exact H8.out.mkr) (by omega) (by omega)).mono ?_;rintro e w9 ⟨x,hx,rfl,sK,JW⟩;have q59:=dK JW hgm q5;clear _t bQ)
    |(go_at_call 59;have _t:=gp;refine(az _ m fs lp 5 (by exact sK) (by omega) (by omega)).mono ?_;rintro e wA ⟨y,hy,rfl,hmA,hvA⟩;have q5A:=dK hvA hgm q59;have HA:=(H8.out.drew.next sK JW).next hmA hvA;have zA:=HA.var.lt;obtain⟨B,d,wB,hrun,x9,y9,z9,k9,h9⟩:=HA.amL hmw hg (n:=0) rfl rfl (by omega) 1 (IntKind.i64.wrap (IntKind.i64.wrap ((x:Int)*50) - 200)) (IntKind.i64.wrap ((y:Int)*50));have H9:=hd0 h9;clear _t gp HA h9))
   all_goals
    go_wp2_with fail
    go_meet
    refine⟨rfl,[⟨1,IntKind.i64.wrap (IntKind.i64.wrap ((x:Int)*50) - 200),IntKind.i64.wrap ((y:Int)*50)⟩],B,d,⟨fun z hz=> ?_,by simp⟩,H9.out⟩;simp only[anu] at hz;subst hz;rw[wrap_in ((x:Int)*50) (by omega) (by omega),wrap_in ((x:Int)*50 - 200) (by omega) (by omega),wrap_in ((y:Int)*50) (by omega) (by omega)];exact⟨⟨show(0:Int)<=1 by decide,show(1:Int)<2 by decide⟩,show N9 ((x:Int)*50 - 200) by unfold N9;omega,show N9 ((y:Int)*50) by unfold N9;omega⟩
  |false=>
   go_wp2_with fail
   go_meet
   exact⟨rfl,[],none,0,by simp,H8.out⟩
 case rest=>
 obtain⟨rfl,pa,A5,c5,hpa,hgv⟩:=hcut;obtain⟨wD,rfl⟩:∃x,x=wc:=⟨_,rfl⟩
 have HD:=hd0 hgv;have HPA:=hd0 hpa;clear hgv H8 hpa;go_wp2_with fail
 refine(az wD m fs lp 2 HD.out.mkr (by omega) (by omega)).mono ?_;rintro e wE ⟨y,hy,rfl,hmE,hvE⟩;have HE:=hd0 (HD.out.next hmE hvE);clear hmE hvE HD
 go_upto_region 8 with fail
 obtain⟨wF,hwF⟩:∃wF,wE.alloc (.cells #[.int .i64 1,.int .i64 0,.int .i64 1,.int .i64 1,.int .i64 3,.int .i64 0,.int .i64 4,.int .i64 0,.int .i64 2,.int .i64 y] I4)=wF:=⟨_,rfl⟩
 have HFk:Hid (GV w m g wE.heap.size (some #[.int .i64 1,.int .i64 0,.int .i64 1,.int .i64 1,.int .i64 3,.int .i64 0,.int .i64 4,.int .i64 0,.int .i64 2,.int .i64 y]) fs lp #[.string ⟨(lW n).toArray⟩,.int .i64 adv,.bool mk,.slice A3 p.length c3,.slice A4 es.length c4,.slice A5 pa.length c5,.slice none 0 0,.slice none 0 0,.slice none 0 0] p A3 es A4 pa A5 c5 [] none 0 [] none 0 wF):=by rw[<-hwF];exact hd0 ((HE.out.below ((ant _ _).alloc (af _) _)).pairs (Bk.new _ _ _))
 rw[hwF];clear hwF HE;generalize wE.heap.size=kb at*
 go_wp2_with fail
 go_loopw [6] (fun i wr=>∃(k:Nat) (an:List ak7) (A6:Option Addr) (c6:Nat),k<=5/\i= .int .i64 k/\Hid (((∀a∈an,1<=a.kind/\a.kind<=4/\N9 a.cls/\N9 a.x/\N9 a.y)/\an.length<=k))/\Hid (GV w m g kb (some #[.int .i64 1,.int .i64 0,.int .i64 1,.int .i64 1,.int .i64 3,.int .i64 0,.int .i64 4,.int .i64 0,.int .i64 2,.int .i64 y]) fs lp #[.string ⟨(lW n).toArray⟩,.int .i64 adv,.bool mk,.slice A3 p.length c3,.slice A4 es.length c4,.slice A5 pa.length c5,.slice A6 an.length c6,.slice none 0 0,.slice none 0 0] p A3 es A4 pa A5 c5 an A6 c6 [] none 0 wr)) (fun i _=>5 - (intOf i).toNat)
 case atStart=>exact⟨0,[],none,0,by omega,rfl,hd0 (by simp),HFk⟩
 case round=>
  obtain⟨wa,rfl⟩:∃x,x=wr:=⟨_,rfl⟩
  obtain⟨k,an,A6,c6,hk,rfl,hoa,HL⟩:=hrel;by_cases hlt:k<5
  ·obtain⟨kd,cl,ek,ec,ahp,aha,hcl⟩:=ZX k y hlt hy
   go_upto_region 11 with fail
   go_cut [77] from 59 to 100 (fun v77 wz=>∃q:Bool,v77= .bool q/\GV w m g kb (some #[.int .i64 1,.int .i64 0,.int .i64 1,.int .i64 1,.int .i64 3,.int .i64 0,.int .i64 4,.int .i64 0,.int .i64 2,.int .i64 y]) fs lp #[.string ⟨(lW n).toArray⟩,.int .i64 adv,.bool mk,.slice A3 p.length c3,.slice A4 es.length c4,.slice A5 pa.length c5,.slice A6 an.length c6,.slice none 0 0,.slice none 0 0] p A3 es A4 pa A5 c5 an A6 c6 [] none 0 wz)
   case first=>
    go_wp2_with fail
    refine(az wa m fs lp 3 HL.out.mkr (by omega) (by omega)).mono ?_;rintro e wb ⟨x,hx,rfl,hmb,hvb⟩;have HB:=hd0 (HL.out.next hmb hvb);clear hmb hvb;have xk:wb.cell? ⟨kb,k*2,none⟩=some (.int .i64 kd):=by rw[(HB.out.kin _ rfl).cell];exact ek
    have xm:wb.cell? ⟨g,2,none⟩=some (.bool mk):=HB.out.var.cell 2;by_cases hx0:x=0
    ·have e0:((x:Int)==0)=true:=by simp;omega
     by_cases h2:kd=2
     ·have e2:(kd !=2)=false:=by simp[h2]
      go_wp2_with fail
      go_meet
      exact⟨mk,rfl,HB.out⟩
     have e2:(kd !=2)=true:=by simpa using h2
     go_wp2_with fail
     go_meet
     exact⟨true,rfl,HB.out⟩
    have e0:((x:Int)==0)=false:=by simp;omega
    go_wp2_with fail
    go_meet
    exact⟨false,rfl,HB.out⟩
   case rest=>
   obtain⟨q,rfl,hgv⟩:=hcut;obtain⟨wb,rfl⟩:∃x,x=wc:=⟨_,rfl⟩
   have HB:=hd0 hgv;clear hgv HL
   go_upto_if 77 with fail
   cases q with
   |true=>
    have xk:wb.drew.cell? ⟨kb,k*2,none⟩=some (.int .i64 kd):=by show wb.cell? _=_;rw[(HB.out.kin _ rfl).cell];exact ek
    have xc:wb.drew.cell? ⟨kb,k*2+1,none⟩=some (.int .i64 cl):=by show wb.cell? _=_;rw[(HB.out.kin _ rfl).cell];exact ec
    have q6:wb.cell? ⟨g,6,none⟩=some (.slice A6 an.length c6):=HB.out.var.cell 6;have hgm:g≠m:=by omega
    have zgb:=HB.out.var.lt;have zkb:=(HB.out.kin _ rfl).lt;have hal:=hoa.out.2;have bQ:True:=trivial;have gp:True:=trivial;go_wp2_with fail
    rw[show Op.load 55 (Operand.tmp 78)=ac6 from rfl]
    go_region_held3 (fun w'=>w'.cell? ⟨kb,k*2,none⟩=some (.int .i64 kd)/\w'.cell? ⟨kb,k*2+1,none⟩=some (.int .i64 cl))
     (first
      |with_reducible exact⟨xk,xc⟩
      |with_reducible exact⟨xk3,xc3⟩
      |with_reducible exact⟨xk4,xc4⟩
      |with_reducible exact⟨alc _ xk4,alc _ xc4⟩
      |with_reducible exact⟨xk9,xc9⟩
      |with_reducible exact⟨xks,xcs⟩
      |go_keep)
     (first
      |(go_at_call 59;have _t:=bQ;refine(az _ m fs lp 21 (by exact HB.out.mkr) (by omega) (by omega)).mono ?_;rintro e w3 ⟨x1,hx1,rfl,bn,hv3⟩;have q63:=dK hv3 hgm q6;have H3:=HB.out.drew.next bn hv3;have xk3:w3.cell? ⟨kb,k*2,none⟩=some (.int .i64 kd):=((H3.kin _ rfl).cell _).trans ek;have xc3:w3.cell? ⟨kb,k*2+1,none⟩=some (.int .i64 cl):=((H3.kin _ rfl).cell _).trans ec;have zg3:=H3.var.lt;clear _t bQ H3)
      |(go_at_call 59;have _t:=gp;refine(az _ m fs lp 21 (by exact bn) (by omega) (by omega)).mono ?_;rintro e w4 ⟨x2,hx2,rfl,hm4,hv4⟩;have q64:=dK hv4 hgm q63;have H4:=(HB.out.drew.next bn hv3).next hm4 hv4;have xk4:w4.cell? ⟨kb,k*2,none⟩=some (.int .i64 kd):=((H4.kin _ rfl).cell _).trans ek;have xc4:w4.cell? ⟨kb,k*2+1,none⟩=some (.int .i64 cl):=((H4.kin _ rfl).cell _).trans ec;have zg4:=H4.var.lt;obtain⟨B,d,w9,hrun,x9,y9,z9,k9,h9⟩:=H4.amC hmw hg (n:=an.length) rfl rfl (by omega) kd cl (IntKind.i64.wrap ((x1:Int)*50)) (IntKind.i64.wrap (IntKind.i64.wrap ((x2:Int)*50) - 200));have xk9:w9.cell? ⟨kb,k*2,none⟩=some (.int .i64 kd):=((k9 _ rfl).cell _).trans ek;have xc9:w9.cell? ⟨kb,k*2+1,none⟩=some (.int .i64 cl):=((k9 _ rfl).cell _).trans ec;have xks:(w9.setCell ⟨g,6,none⟩ (.slice B (an.length+1) d)).cell? ⟨kb,k*2,none⟩=some (.int .i64 kd):=((h9.kin _ rfl).cell _).trans ek;have xcs:(w9.setCell ⟨g,6,none⟩ (.slice B (an.length+1) d)).cell? ⟨kb,k*2+1,none⟩=some (.int .i64 cl):=((h9.kin _ rfl).cell _).trans ec;have H9:=hd0 h9;clear _t gp H4 h9))
    all_goals
     have hl2:(an++[(⟨kd,cl,IntKind.i64.wrap ((x1:Int)*50),IntKind.i64.wrap (IntKind.i64.wrap ((x2:Int)*50) - 200)⟩:ak7)]).length=an.length+1:=by simp
     have af8:Hid ((∀a∈an++[(⟨kd,cl,IntKind.i64.wrap ((x1:Int)*50),IntKind.i64.wrap (IntKind.i64.wrap ((x2:Int)*50) - 200)⟩:ak7)],1<=a.kind/\a.kind<=4/\N9 a.cls/\N9 a.x/\N9 a.y)/\(an++[(⟨kd,cl,IntKind.i64.wrap ((x1:Int)*50),IntKind.i64.wrap (IntKind.i64.wrap ((x2:Int)*50) - 200)⟩:ak7)]).length<=k+1):=hd0 ⟨fun a ha=>by
      rw[anz,anu] at ha;rcases ha with ha|rfl
      ·exact hoa.out.1 a ha
      exact⟨ahp,aha,hcl,(ZT x1 hx1),(JE x2 hx2).2⟩,by rw[hl2];omega⟩
     have WG:Hid (GV w m g kb (some #[.int .i64 1,.int .i64 0,.int .i64 1,.int .i64 1,.int .i64 3,.int .i64 0,.int .i64 4,.int .i64 0,.int .i64 2,.int .i64 y]) fs lp #[.string ⟨(lW n).toArray⟩,.int .i64 adv,.bool mk,.slice A3 p.length c3,.slice A4 es.length c4,.slice A5 pa.length c5,.slice B (an++[(⟨kd,cl,IntKind.i64.wrap ((x1:Int)*50),IntKind.i64.wrap (IntKind.i64.wrap ((x2:Int)*50) - 200)⟩:ak7)]).length d,.slice none 0 0,.slice none 0 0] p A3 es A4 pa A5 c5 (an++[(⟨kd,cl,IntKind.i64.wrap ((x1:Int)*50),IntKind.i64.wrap (IntKind.i64.wrap ((x2:Int)*50) - 200)⟩:ak7)]) B d [] none 0 (w9.setCell ⟨g,6,none⟩ (.slice B (an.length+1) d))):=by rw[hl2];exact H9
     clear xk xc xk3 xc3 xk4 xc4 xk9 xc9 xks xcs q6 q63 q64 hl2 H9 hrun x9 y9 z9 k9;go_wp2_with fail
     go_roundw
     case rel=>exact⟨k+1,an++[(⟨kd,cl,IntKind.i64.wrap ((x1:Int)*50),IntKind.i64.wrap (IntKind.i64.wrap ((x2:Int)*50) - 200)⟩:ak7)],B,d,by omega,by simp,af8,WG⟩
     case measure=>simp[intOf];omega
   |false=>
    go_wp2_with fail
    go_roundw
    case rel=>exact⟨k+1,an,A6,c6,by omega,by simp,hd0 ⟨hoa.out.1,by have:=hoa.out.2;omega⟩,HB⟩
    case measure=>simp[intOf];omega
  have x8:wa.cell? ⟨m,8,none⟩=some (.slice Ar nr cr):=HL.out.mkr.at' 6 (by omega) H6.out;have tJ:Hid ((∀a∈an,1<=a.kind/\a.kind<=4/\N9 a.cls/\N9 a.x/\N9 a.y)/\an.length<=5):=hd0 ⟨hoa.out.1,nt hoa.out.2 hk⟩;clear hoa;go_wp2_with fail
  go_loopw [7] (fun i wr=>∃(r:Nat) (de:List Delta) (A7:Option Addr) (c7:Nat),r<=nr/\i= .int .i64 r/\Hid ((∀d∈de,N9 d.region/\N9 d.point/\N9 d.x/\N9 d.y)/\de.length<=11*r)/\Hid (GV w m g kb (some #[.int .i64 1,.int .i64 0,.int .i64 1,.int .i64 1,.int .i64 3,.int .i64 0,.int .i64 4,.int .i64 0,.int .i64 2,.int .i64 y]) fs lp #[.string ⟨(lW n).toArray⟩,.int .i64 adv,.bool mk,.slice A3 p.length c3,.slice A4 es.length c4,.slice A5 pa.length c5,.slice A6 an.length c6,.slice A7 de.length c7,.slice none 0 0] p A3 es A4 pa A5 c5 an A6 c6 de A7 c7 wr)) (fun i _=>nr - (intOf i).toNat)
  case atStart=>exact⟨0,[],none,0,nz _,rfl,hd0 (by simp),HL⟩
  case round=>
   obtain⟨wb,rfl⟩:∃x,x=wr:=⟨_,rfl⟩
   obtain⟨r,de,A7,c7,hr,rfl,hod,HB⟩:=hrel;have x8:wb.cell? ⟨m,8,none⟩=some (.slice Ar nr cr):=HB.out.mkr.at' 6 (by omega) H6.out;by_cases hlt:r<nr
   ·have x3:wb.cell? ⟨g,3,none⟩=some (.slice A3 p.length c3):=HB.out.var.cell 3;go_wp2_with fail
    go_loopw [8] (fun i wr=>∃(pp:Nat) (de:List Delta) (A7:Option Addr) (c7:Nat),pp<=p.length+1/\i= .int .i64 ((pp:Int) - 1)/\Hid ((∀d∈de,N9 d.region/\N9 d.point/\N9 d.x/\N9 d.y)/\de.length<=11*r+pp)/\Hid (GV w m g kb (some #[.int .i64 1,.int .i64 0,.int .i64 1,.int .i64 1,.int .i64 3,.int .i64 0,.int .i64 4,.int .i64 0,.int .i64 2,.int .i64 y]) fs lp #[.string ⟨(lW n).toArray⟩,.int .i64 adv,.bool mk,.slice A3 p.length c3,.slice A4 es.length c4,.slice A5 pa.length c5,.slice A6 an.length c6,.slice A7 de.length c7,.slice none 0 0] p A3 es A4 pa A5 c5 an A6 c6 de A7 c7 wr)) (fun i _=>(p.length - intOf i).toNat)
    case atStart=>exact⟨0,de,A7,c7,nz _,rfl,hod,HB⟩
    case round=>
     obtain⟨wd,rfl⟩:∃x,x=wr:=⟨_,rfl⟩
     clear x8 x3 hod HB;obtain⟨pp,de,A7,c7,hpp,rfl,hod,HD⟩:=hrel;have x3:wd.cell? ⟨g,3,none⟩=some (.slice A3 p.length c3):=HD.out.var.cell 3;by_cases hlt2:pp<p.length+1
     ·go_wp2_with fail
      refine(az wd m fs lp 3 HD.out.mkr (by omega) (by omega)).mono ?_;rintro e we ⟨x,hx,rfl,hme,hve⟩;have HE:=hd0 (HD.out.next hme hve);clear hme hve x3;by_cases hx0:x=0
      ·have e0:((x:Int)==0)=true:=by simp;omega
       have hdl:=hod.out.2;go_wp2_with fail
       refine(az we m fs lp 41 HE.out.mkr (by omega) (by omega)).mono ?_;rintro e wf ⟨x1,hx1,rfl,hmf,Xx⟩;have GR:=hd0 (HE.out.next hmf Xx);clear hmf Xx HE;by_cases hp0:pp=0
       ·have e1:decide ((1:Int)<=(pp:Int))=false:=by simp;omega
        clear hp0;have HW:=hd0 (GR.out.below ((ant wf.heap.size wf).alloc (af _) (.cells #[.int .i64 r,.int .i64 ((pp:Int) - 1),.int .i64 ((x1:Int) - 20),.int .i64 0] nN)));have x7:wf.cell? ⟨g,7,none⟩=some (.slice A7 de.length c7):=GR.out.var.cell 7;have zgf:=GR.out.var.lt;have hgf:¬(g=wf.heap.size):=by omega
        obtain⟨B,d,w9,hrun,x9,y9,z9,k9,h9⟩:=HW.out.aml hmw hg (n:=de.length) rfl rfl (by omega) (r:Int) ((pp:Int) - 1) ((x1:Int) - 20) 0;rw[World.size_alloc] at hrun;clear GR HW;have H9:=hd0 h9;have hl2:(de++[(⟨(r:Int),(pp:Int) - 1,(x1:Int) - 20,0⟩:Delta)]).length=de.length+1:=by simp
        have aai:Hid ((∀d∈de++[(⟨(r:Int),(pp:Int) - 1,(x1:Int) - 20,0⟩:Delta)],N9 d.region/\N9 d.point/\N9 d.x/\N9 d.y)/\(de++[(⟨(r:Int),(pp:Int) - 1,(x1:Int) - 20,0⟩:Delta)]).length<=11*r+(pp+1)):=hd0 ⟨fun z hz=>by
         rw[anz,anu] at hz;rcases hz with hz|rfl
         ·exact hod.out.1 z hz
         exact⟨show N9 (r:Int) by unfold N9;omega,show N9 ((pp:Int) - 1) by unfold N9;omega,show N9 ((x1:Int) - 20) by unfold N9;omega,show N9 (0) by unfold N9;omega⟩,by rw[hl2];omega⟩
        have WG:Hid (GV w m g kb (some #[.int .i64 1,.int .i64 0,.int .i64 1,.int .i64 1,.int .i64 3,.int .i64 0,.int .i64 4,.int .i64 0,.int .i64 2,.int .i64 y]) fs lp #[.string ⟨(lW n).toArray⟩,.int .i64 adv,.bool mk,.slice A3 p.length c3,.slice A4 es.length c4,.slice A5 pa.length c5,.slice A6 an.length c6,.slice B (de++[(⟨(r:Int),(pp:Int) - 1,(x1:Int) - 20,0⟩:Delta)]).length d,.slice none 0 0] p A3 es A4 pa A5 c5 an A6 c6 (de++[(⟨(r:Int),(pp:Int) - 1,(x1:Int) - 20,0⟩:Delta)]) B d (w9.setCell ⟨g,7,none⟩ (.slice B (de.length+1) d))):=by rw[hl2];exact H9
        clear hl2 h9 H9 k9;go_wp2_with (at_builtin;refine aa7 rfl (.tmp 135) (.tmp 137) rfl rfl rfl hrun ?_;clear hrun)
        go_roundw
        case rel=>exact⟨pp+1,de++[(⟨(r:Int),(pp:Int) - 1,(x1:Int) - 20,0⟩:Delta)],B,d,by omega,by simp,aai,WG⟩
        case measure=>simp[intOf];omega
       have e1:decide ((1:Int)<=(pp:Int))=true:=by simp;omega
       clear hp0;go_wp2_with fail
       obtain⟨W1,hW1⟩:∃W1,wf.alloc (.cells #[.int .i64 r,.int .i64 ((pp:Int) - 1),.int .i64 ((x1:Int) - 20),.int .i64 0] nN)=W1:=⟨_,rfl⟩
       have HW1:Hid (GV w m g kb (some #[.int .i64 1,.int .i64 0,.int .i64 1,.int .i64 1,.int .i64 3,.int .i64 0,.int .i64 4,.int .i64 0,.int .i64 2,.int .i64 y]) fs lp #[.string ⟨(lW n).toArray⟩,.int .i64 adv,.bool mk,.slice A3 p.length c3,.slice A4 es.length c4,.slice A5 pa.length c5,.slice A6 an.length c6,.slice A7 de.length c7,.slice none 0 0] p A3 es A4 pa A5 c5 an A6 c6 de A7 c7 W1):=by rw[<-hW1];exact hd0 (GR.out.below ((ant _ _).alloc (af _) _))
       have b4:Bk W1 wf.heap.size nN #[.int .i64 r,.int .i64 ((pp:Int) - 1),.int .i64 ((x1:Int) - 20),.int .i64 0]:=by rw[<-hW1];exact Bk.new _ _ _
       have agX:=GR.out.des;have hgf:¬(g=wf.heap.size):=by have:=GR.out.var.lt;omega
       have hfz:=GR.out.mv.size;rw[hW1];clear hW1 GR;refine(az W1 m fs lp 41 HW1.out.mkr (by omega) (by omega)).mono ?_;rintro e wg ⟨x2,hx2,rfl,hmg,wR⟩;have b5:=(Sp.next HW1.out.mkr wR).bk b4 (by decide);have HG1:=hd0 (HW1.out.next hmg wR);have d3:wg.cell? ⟨wf.heap.size,3,none⟩=some (.int .i64 0):=b5.cell 3;have y3:=b5.frozen 3;have zb5:=b5.lt;clear hmg wR HW1 b4;have x7:wg.cell? ⟨g,7,none⟩=some (.slice A7 de.length c7):=HG1.out.var.cell 7;have d0:wg.cell? ⟨wf.heap.size,0,none⟩=some (.int .i64 r):=b5.cell 0;have d1:wg.cell? ⟨wf.heap.size,1,none⟩=some (.int .i64 ((pp:Int) - 1)):=b5.cell 1;have d2:wg.cell? ⟨wf.heap.size,2,none⟩=some (.int .i64 ((x1:Int) - 20)):=b5.cell 2;have zgg:=HG1.out.var.lt;have HW:=hd0 (HG1.out.box hmw b5 (fun x hx=>(agX.lt x hx).2) hfz 3 (.int .i64 ((x2:Int) - 20)));obtain⟨B,d,w9,hrun,x9,y9,z9,k9,h9⟩:=HW.out.aml hmw hg (n:=de.length) rfl rfl (by omega) (r:Int) ((pp:Int) - 1) ((x1:Int) - 20) ((x2:Int) - 20);rw[World.size_setCell] at hrun;clear b5 HG1 HW;have H9:=hd0 h9;have hl2:(de++[(⟨(r:Int),(pp:Int) - 1,(x1:Int) - 20,(x2:Int) - 20⟩:Delta)]).length=de.length+1:=by simp
       have aai:Hid ((∀d∈de++[(⟨(r:Int),(pp:Int) - 1,(x1:Int) - 20,(x2:Int) - 20⟩:Delta)],N9 d.region/\N9 d.point/\N9 d.x/\N9 d.y)/\(de++[(⟨(r:Int),(pp:Int) - 1,(x1:Int) - 20,(x2:Int) - 20⟩:Delta)]).length<=11*r+(pp+1)):=hd0 ⟨fun z hz=>by
        rw[anz,anu] at hz;rcases hz with hz|rfl
        ·exact hod.out.1 z hz
        exact⟨show N9 (r:Int) by unfold N9;omega,show N9 ((pp:Int) - 1) by unfold N9;omega,show N9 ((x1:Int) - 20) by unfold N9;omega,show N9 ((x2:Int) - 20) by unfold N9;omega⟩,by rw[hl2];omega⟩
       have WG:Hid (GV w m g kb (some #[.int .i64 1,.int .i64 0,.int .i64 1,.int .i64 1,.int .i64 3,.int .i64 0,.int .i64 4,.int .i64 0,.int .i64 2,.int .i64 y]) fs lp #[.string ⟨(lW n).toArray⟩,.int .i64 adv,.bool mk,.slice A3 p.length c3,.slice A4 es.length c4,.slice A5 pa.length c5,.slice A6 an.length c6,.slice B (de++[(⟨(r:Int),(pp:Int) - 1,(x1:Int) - 20,(x2:Int) - 20⟩:Delta)]).length d,.slice none 0 0] p A3 es A4 pa A5 c5 an A6 c6 (de++[(⟨(r:Int),(pp:Int) - 1,(x1:Int) - 20,(x2:Int) - 20⟩:Delta)]) B d (w9.setCell ⟨g,7,none⟩ (.slice B (de.length+1) d))):=by rw[hl2];exact H9
       clear hl2 h9 H9 k9;go_wp2_with (at_builtin;refine aa7 rfl (.tmp 135) (.tmp 137) rfl rfl rfl hrun ?_;clear hrun)
       go_roundw
       case rel=>exact⟨pp+1,de++[(⟨(r:Int),(pp:Int) - 1,(x1:Int) - 20,(x2:Int) - 20⟩:Delta)],B,d,by omega,by simp,aai,WG⟩
       case measure=>simp[intOf];omega
      have e0:((x:Int)==0)=false:=by simp;omega
      go_wp2_with fail
      go_roundw
      case rel=>exact⟨pp+1,de,A7,c7,by omega,by simp,hd0 ⟨hod.out.1,by have:=hod.out.2;omega⟩,HE⟩
      case measure=>simp[intOf];omega
     obtain rfl:pp=p.length+1:=by omega
     go_wp2_with fail
     go_roundw
     case rel=>exact⟨r+1,de,A7,c7,by omega,by simp,hd0 ⟨hod.out.1,by have:=hod.out.2;omega⟩,HD⟩
     case measure=>simp[intOf];omega
   have c11:wb.cell? ⟨m,11,none⟩=some (.int .i64 lp):=HB.out.mkr.cells.2;have f11:=HB.out.mkr.frozen 11;have zm:=HB.out.mkr.lt;have Zy:Hid ((∀d∈de,N9 d.region/\N9 d.point/\N9 d.x/\N9 d.y)/\de.length<=40):=hd0 ⟨hod.out.1,by have:=hod.out.2;omega⟩;have aik:=Zy.out.2
   go_upto_region 25 with fail
   have HC:Hid (GV w m g kb (some #[.int .i64 1,.int .i64 0,.int .i64 1,.int .i64 1,.int .i64 3,.int .i64 0,.int .i64 4,.int .i64 0,.int .i64 2,.int .i64 y]) fs 2 #[.string ⟨(lW n).toArray⟩,.int .i64 adv,.bool mk,.slice A3 p.length c3,.slice A4 es.length c4,.slice A5 pa.length c5,.slice A6 an.length c6,.slice A7 de.length c7,.slice none 0 0] p A3 es A4 pa A5 c5 an A6 c6 de A7 c7 (wb.setCell ⟨m,11,none⟩ (.int .i64 2))):=hd0 (HB.out.next (HB.out.mkr.loops 2) (HB.out.mkr.mvp 11 _));obtain⟨wq,hwq⟩:∃wq,wb.setCell ⟨m,11,none⟩ (.int .i64 2)=wq:=⟨_,rfl⟩
   rw[hwq] at HC ⊢;clear hwq c11 f11 x8 HB hod;have x3:wq.cell? ⟨g,3,none⟩=some (.slice A3 p.length c3):=HC.out.var.cell 3;have x9m:wq.cell? ⟨m,9,none⟩=some (.slice Af nf cf):=HC.out.mkr.at' 7 (by omega) H7.out;have zgq:=HC.out.var.lt;have hgm:g≠m:=by omega
   have bQ:True:=trivial
   go_region_with (go_at_call 60;have _t:=bQ;refine(Sr _ m fs 2 p.length nf 6 (by exact HC.out.mkr) (by omega) (by omega) (by omega) (by omega) (by omega)).mono ?_;rintro e wr ⟨hi,Ah,ch,lp2,hhi,hhl,ZK,rfl,hcap,shi,hmr,hvr⟩;have HR:=HC.out.drew.next hmr hvr;have q8:wr.cell? ⟨g,8,none⟩=some (.slice none 0 0):=HR.var.cell 8;have f8:=HR.var.frozen 8;have zgr:=HR.var.lt;have HR':=hd0 HR;have HSI:=hd0 shi;have HHI:=hd0 hhi;clear _t bQ HR hmr hvr shi)
   all_goals
    have HT:Hid (GV w m g kb (some #[.int .i64 1,.int .i64 0,.int .i64 1,.int .i64 1,.int .i64 3,.int .i64 0,.int .i64 4,.int .i64 0,.int .i64 2,.int .i64 y]) fs lp2 #[.string ⟨(lW n).toArray⟩,.int .i64 adv,.bool mk,.slice A3 p.length c3,.slice A4 es.length c4,.slice A5 pa.length c5,.slice A6 an.length c6,.slice A7 de.length c7,.slice Ah hi.length ch] p A3 es A4 pa A5 c5 an A6 c6 de A7 c7 (wr.setCell ⟨g,8,none⟩ (.slice Ah hi.length ch))):=hd0 (HR'.out.put hmw hg 8 _);have HST:Hid (Sl akZ 2 (wr.setCell ⟨g,8,none⟩ (.slice Ah hi.length ch)) (TS [pz] w.heap.size (wr.setCell ⟨g,8,none⟩ (.slice Ah hi.length ch))) Ah hi):=hd0 ((Sp.set (m:=m) HR'.out.var (by omega) 8 (.slice Ah hi.length ch)).sl akZ.ok (by decide) (HSI.out.ts akZ.ok (fun _ h=>h) (by have:=HC.out.mv.size;exact this)));obtain⟨wt,hwt⟩:∃wt,wr.setCell ⟨g,8,none⟩ (.slice Ah hi.length ch)=wt:=⟨_,rfl⟩
    try go_upto_region 26 with fail
    rw[hwt] at HT HST ⊢;clear hwt q8 f8 zgr HR' HSI x3 x9m zgq HC;have hvt:=HT.out.mv;have HRT:=hd0 (XD IC.out hvt hmb);have hzt:=hvt.size;have x0:wt.cell? ⟨g,0,none⟩=some (.string ⟨(lW n).toArray⟩):=HT.out.var.cell 0;have x1:wt.cell? ⟨g,1,none⟩=some (.int .i64 adv):=HT.out.var.cell 1;have x2:wt.cell? ⟨g,2,none⟩=some (.bool mk):=HT.out.var.cell 2;have x3:wt.cell? ⟨g,3,none⟩=some (.slice A3 p.length c3):=HT.out.var.cell 3;have x4:wt.cell? ⟨g,4,none⟩=some (.slice A4 es.length c4):=HT.out.var.cell 4;have x5:wt.cell? ⟨g,5,none⟩=some (.slice A5 pa.length c5):=HT.out.var.cell 5;have x6:wt.cell? ⟨g,6,none⟩=some (.slice A6 an.length c6):=HT.out.var.cell 6;have x7:wt.cell? ⟨g,7,none⟩=some (.slice A7 de.length c7):=HT.out.var.cell 7;have x8:wt.cell? ⟨g,8,none⟩=some (.slice Ah hi.length ch):=HT.out.var.cell 8;have xm:wt.cell? ⟨m,3,none⟩=some (.slice Ag G cg):=HT.out.mkr.at' 1 (by omega) HF.out;have zgt:=HT.out.var.lt;have zmt:=HT.out.mkr.lt;obtain⟨B,d,w9,hrun,aS,ax,bi⟩:=iJ IQ 24 wt.drew base _ cg Ag _ #[.string ⟨(lW n).toArray⟩,.int .i64 adv,.bool mk,.slice A3 p.length c3,.slice A4 es.length c4,.slice A5 pa.length c5,.slice A6 an.length c6,.slice A7 de.length c7,.slice Ah hi.length ch] rfl (show wt.drew.ownsRow base jB 9 (.slice Ag G cg) G gcs from HRT.out) (by simp[Value.oneCell']) (by omega) (show base<=wt.heap.size by omega);have hTd:=HT.out.drew;have s9:Sp m jB wt.drew w9:=Sp.push (show wt.drew.ownsRow base jB 9 (.slice Ag G cg) G gcs from HRT.out) (by omega) ax;have pJ:=s9.mk hTd.mkr (by decide);have xm9:w9.cell? ⟨m,3,none⟩=some (.slice Ag G cg):=pJ.at' 1 (by omega) HF.out;have f9:=pJ.frozen 3;have z9:=pJ.lt;have s10:=pJ.sp 3 (.slice B (G+1) d);have Ul:(Builtin.append_ #[24,24] 24 #[.slice Ag G cg,.slice (some ⟨wt.heap.size,0,none⟩) 1 1]).run Tryz.prog (wt.alloc (.cells #[.string ⟨(lW n).toArray⟩,.int .i64 adv,.bool mk,.slice A3 p.length c3,.slice A4 es.length c4,.slice A5 pa.length c5,.slice A6 an.length c6,.slice A7 de.length c7,.slice Ah hi.length ch] jB)).drew= .ok (.slice B (G+1) d) w9:=hrun;have hpost:Ro w m fs n Ag G cg base gcs (.returned (.tuple #[])) (w9.setCell ⟨m,3,none⟩ (.slice B (G+1) d)):=by
     refine⟨⟨lW n,adv,mk,p,es,pa,an,de,hi⟩,[.string ⟨(lW n).toArray⟩,.int .i64 adv,.bool mk,.slice A3 p.length c3,.slice A4 es.length c4,.slice A5 pa.length c5,.slice A6 an.length c6,.slice A7 de.length c7,.slice Ah hi.length ch],B,d,lp2,alW.make hn hadv HOK.out hk2 HPA.out tJ.out Zy.out ⟨HHI.out,by omega⟩,rfl,pJ.put 1 (by omega) _,s10.own aS (by decide),rfl,?_,?_⟩
     ·refine⟨A3,c3,A4,c4,A5,c5,A6,c6,A7,c7,Ah,ch,rfl,kC hadv,Q7 PtR.ok s9 s10 (by decide) hTd.pts,Q7 akL.ok s9 s10 (by decide) hTd.ends,Q7 ala.ok s9 s10 (ts:=[vJ]) (by decide) (dG hTd.pas (YU _ _ _ fun z hz=> ?_) (by simp) (af _) (by omega)),Q7 akX.ok s9 s10 (ts:=[vV]) (by decide) (dG hTd.ans (Zm _ _ _ fun z hz=> ?_) (by simp) (af _) (by omega)),Q7 ak2.ok s9 s10 (ts:=[nN]) (by decide) (dG hTd.des (aaP _ _ _ fun z hz=> ?_) (by simp) (af _) (by omega)),Q7 akZ.ok s9 s10 (ts:=[pz]) (by decide) HST.out⟩
      ·have h:=HPA.out.1 z hz;exact⟨⟨by have:=h.1.1;omega,by have:=h.1.2;omega⟩,kC h.2.1,kC h.2.2⟩
      ·have h:=tJ.out.1 z hz;exact⟨⟨by omega,by omega⟩,kC h.2.2.1,kC h.2.2.2.1,kC h.2.2.2.2⟩
      have h:=Zy.out.1 z hz;exact⟨kC h.1,kC h.2.1,kC h.2.2.1,kC h.2.2.2⟩
     exact(((jS hvt (ant _ _).drew).two (row:=(Value.slice Ag G cg).ownBlock)).step ax (fun x hx=> .inr (.inr hx))).step (pJ.mvp 3 _) (fun x hx=>by injection hx with hx;exact .inr (.inl hx.symm))
    have Ib:=hd0 hpost;clear hpost s9 s10 pJ hTd aS ax bi hrun hvt HRT HST;go_wp2_with fail
    go_region
    all_goals
     go_end0
     exact Ib.out
end Go.Proofs.YtkijckccfookeaaGreatDoor
