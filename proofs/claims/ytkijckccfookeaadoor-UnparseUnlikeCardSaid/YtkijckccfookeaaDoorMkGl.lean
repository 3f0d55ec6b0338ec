/- fleuronref07: the maker's glyph. -/
import Derived.Test.YtkijckccfookeaaDoorMkGa
set_option linter.unusedVariables false
set_option linter.unusedSimpArgs false
set_option maxRecDepth 100000
set_option maxHeartbeats 32000000
namespace Go.Proofs.YtkijckccfookeaaDoor
open Go.RowKit
attribute [-go_sem] Builtin.append_
theorem Ut {w:World}(o:Obj){a:Addr}{v:Value}(h:w.cell? a=some v):(w.alloc o).cell? a=some v:=(Bv (World.grownBy.refl w none) o).cell h (by simp)
section
variable {t:TypeId} {ops:Array Oper} {rest:List Oper} {o:Oper} {a:Act} {Q:Exit->Act->World->Prop}
theorem Ub (hgd:o.guard=none)(s x:Operand)(ho:o.op= .call {callee:= .builtin .append,args:= #[s,x],argTypes:= #[t,t]}){w1 w9:World}{v sv xv:Value}(hs:a.eval s=sv)(hx:a.eval x=xv)
  (hrun:(Builtin.append_ #[t,t] o.type #[sv,xv]).run Tryd.prog w1= .ok v w9) (h:wpList Tryd.prog ops Q rest (a.put o.dst v) w9):wpList Tryd.prog ops Q (o::rest) a w1:=by
 refine wpList_plain hgd fun K hK=> ?_
 unfold Oper.wp execOp;simp only[ho,resolve,invoke,builtin,Sem.run_bind,Sem.run_pure,Result.andThen_ok,List.map_toArray,agO,ahk,hs,hx,hrun];exact hK _ _ h
end
theorem je {n:Int}(h:N9 n):I64 n:=by unfold N9 at h;unfold I64;omega
abbrev BG:List TypeId:=[uH,aF,pK,pq,jZ,kN]
theorem KF {m base:Nat}{a b c:World}{α:Type}{R:Rel α}(ok:R.Ok)(s9:Sp m fE a b)(s10:Sp m kw b c){size:Nat}{A:Option Addr}{xs:List α}{ts:List TypeId}(h:fE ∉ ts/\kw ∉ ts/\∀t∈ts,t∈BG)(hs:Sl R size a (TS ts base a) A xs):Sl R size c (TR BG base c.heap.size c) A xs:=((s10.sl ok h.2.1 (s9.sl ok h.1 hs)).ts ok h.2.2 (ai _)).mono ok (TR.afT (ai _))
theorem Tu (x:Nat)(h:x<21):N9 (IntKind.i64.wrap ((x:Int)*50)):=by rw[wrap_in ((x:Int)*50) (by omega) (by omega)];unfold N9;omega
theorem QI (k y:Nat)(h:k<5)(hy:y<2):∃kd cl:Int,(#[.int .i64 1,.int .i64 0,.int .i64 1,.int .i64 1,.int .i64 3,.int .i64 0,.int .i64 4,.int .i64 0,.int .i64 2,.int .i64 y]:Array Value)[k*2]? =some (.int .i64 kd)/\(#[.int .i64 1,.int .i64 0,.int .i64 1,.int .i64 1,.int .i64 3,.int .i64 0,.int .i64 4,.int .i64 0,.int .i64 2,.int .i64 y]:Array Value)[k*2+1]? =some (.int .i64 cl)/\1<=kd/\kd<=4/\N9 cl:=by
 have:k=0\/k=1\/k=2\/k=3\/k=4:=by omega
 unfold N9;rcases this with rfl|rfl|rfl|rfl|rfl<;>exact⟨_,_,rfl,rfl,by omega,by omega,by omega⟩
def JO (w:World)(m:Nat)(fs:Nat->Value)(n:Nat)(Ag:Option Addr)(G cg:Nat)(base:Nat)(gcs:List Value)(e:Ending)(w':World):Prop:=∃(g:aeS) (nc:List Value) (B:Option Addr) (d:Nat) (lp':Int),afB n g/\e= .returned (.tuple #[])/\Mk w' m (dw fs 1 (.slice B (G+1) d)) lp'/\w'.ownsRow base fE 9 (.slice B (G+1) d) (G+1) (gcs++nc)/\nc.length=9/\aeU w' (TR [uH,aF,pK,pq,jZ,kN] w.heap.size w'.heap.size w') nc g/\Mv2 m (Value.slice Ag G cg).ownBlock w w'
def Wi:Op:=Op.load 53 (Operand.tmp 78)
attribute [go_sem] Wi
theorem NV (w:World)(m:Nat)(fs:Nat->Value)(lp:Int)(n G:Nat)(Ag:Option Addr)(cg base:Nat)(gcs:List Value)(Ar:Option Addr)(nr cr:Nat)(Af:Option Addr)(nf cf:Nat)(h:Mk w m fs lp)(hf:fs 1= .slice Ag G cg)(h6:fs 6= .slice Ar nr cr)(h7:fs 7= .slice Af nf cf)(hrow:w.ownsRow base fE 9 (.slice Ag G cg) G gcs)(hmb:m<base)(hbz:base<=w.heap.size)(hn:n<10)(hG:G<=1000)(hnr:nr<=3)(hnf:nf<=2):
  Calls Tryd.prog 38 #[.pointer (some ⟨m,0,none⟩),.int .i64 n] w (JO w m fs n Ag G cg base gcs):=by
 have hmw:=h.lt;have H:Hid (GI w m fs lp w):=hd0 ⟨h,yA m w⟩;have HF:=hd0 hf;have H6:=hd0 h6;have H7:=hd0 h7;have abd:=hd0 hrow;clear h hf h6 h7 hrow;go_enter Tryd.func38,Tryd.ntmps38
 go_wp2_with fail
 refine SV w m n fs lp H hn _ _ rfl _ _ (hd0 ?_);intro g adv b wx u10 u11 u12 u13 u14 u15 u16 u17 u18 u19 u20 u21 u22 u23 hg hadv hgv;have HG:=hd0 hgv;clear hgv;have q0:wx.cell? ⟨g,0,none⟩=some (.string ⟨([103,(97+n).toUInt8]:B).toArray⟩):=HG.out.var.cell 0;have q2:wx.cell? ⟨g,2,none⟩=some (.bool b):=HG.out.var.cell 2;have f0:=HG.out.var.frozen 0;have f2:=HG.out.var.frozen 2;have zg:=HG.out.var.lt
 go_upto_if 25 with fail
 go_cut [4,25] from 26 to 27 (fun v4 _ wy=>∃mk,v4= .pointer (some ⟨g,0,none⟩)/\GV w m g 0 none fs lp #[.string ⟨(jS n).toArray⟩,.int .i64 adv,.bool mk,.slice none 0 0,.slice none 0 0,.slice none 0 0,.slice none 0 0,.slice none 0 0,.slice none 0 0] [] none [] none [] none 0 [] none 0 [] none 0 wy)
 case first=>
  by_cases h0:n=0
  ·have e0:((n:Int)==0)=true:=by simp;omega
   have en:jS n=[46,110,111,116,100,101,102]:=if_pos h0;go_wp2_with fail
   go_meet
   have k:=(HG.out.put hmw hg 0 (.string ⟨#[46,110,111,116,100,101,102]⟩)).put hmw hg 2 (.bool false);exact⟨false,rfl,by rw[en];exact k⟩
  have e0:((n:Int)==0)=false:=by simp;omega
  have en:jS n=[103,(97+n).toUInt8]:=if_neg h0;go_wp2_with fail
  go_meet
  exact⟨b,rfl,by rw[en];exact HG.out⟩
 case rest=>
 obtain⟨mk,rfl,hgv⟩:=hcut;obtain⟨wy,rfl⟩:∃x,x=wc:=⟨_,rfl⟩
 have HY:=hd0 hgv;clear hgv q0 q2 f0 f2 HG zg;go_wp2_with fail
 refine(Ny wy m fs lp HY.out.mkr).mono ?_;rintro e w5 ⟨kq,p,es,A3,c3,A4,c4,hok,hk2,rfl,sp,se,Ik,hv5⟩;have H5:=hd0 ((HY.out.next Ik hv5).agC HY.out.mv.size sp se);have Y6:=hd0 hok;have hpl:p.length<=10:=by have:=hok.few;omega
 have q3:w5.cell? ⟨g,3,none⟩=some (.slice none 0 0):=H5.out.var.cell 3;have q4:w5.cell? ⟨g,4,none⟩=some (.slice none 0 0):=H5.out.var.cell 4;have f3:=H5.out.var.frozen 3;have f4:=H5.out.var.frozen 4;have zg:=H5.out.var.lt;clear sp se Ik hv5 hok HY
 go_upto_region 5 with fail
 obtain⟨w6,hw6⟩:∃w6,(w5.setCell ⟨g,3,none⟩ (.slice A3 p.length c3)).setCell ⟨g,4,none⟩ (.slice A4 es.length c4)=w6:=⟨_,rfl⟩
 have Ud:Hid (GV w m g 0 none fs lp #[.string ⟨(jS n).toArray⟩,.int .i64 adv,.bool mk,.slice A3 p.length c3,.slice A4 es.length c4,.slice none 0 0,.slice none 0 0,.slice none 0 0,.slice none 0 0] p A3 es A4 [] none 0 [] none 0 [] none 0 w6):=by rw[<-hw6];exact hd0 ((H5.out.put hmw hg 3 (.slice A3 p.length c3)).put hmw hg 4 (.slice A4 es.length c4))
 rw[hw6];clear hw6 q3 q4 f3 f4 H5 zg;go_cut [37] from 31 to 36 (fun v37 wz=>∃q:Bool,v37= .bool q/\(q=true->2<=n)/\GV w m g 0 none fs lp #[.string ⟨(jS n).toArray⟩,.int .i64 adv,.bool mk,.slice A3 p.length c3,.slice A4 es.length c4,.slice none 0 0,.slice none 0 0,.slice none 0 0,.slice none 0 0] p A3 es A4 [] none 0 [] none 0 [] none 0 wz)
 case first=>
  by_cases h2:1<n
  ·have e2:decide ((1:Int)<n)=true:=by simp;omega
   go_wp2_with fail
   refine(ay w6 m fs lp 4 Ud.out.mkr (by omega) (by omega)).mono ?_;rintro e w7 ⟨y,hy,rfl,hm7,hv7⟩;go_wp2_with fail
   go_meet
   exact⟨((y:Int)==0),rfl,fun _=>by omega,Ud.out.next hm7 hv7⟩
  have e2:decide ((1:Int)<n)=false:=by simp;omega
  go_wp2_with fail
  go_meet
  exact⟨false,rfl,by simp,Ud.out⟩
 case rest=>
 obtain⟨q,rfl,hq2,hgv⟩:=hcut;obtain⟨w8,rfl⟩:∃x,x=wc:=⟨_,rfl⟩
 have H8:=hd0 hgv;clear hgv Ud
 go_upto_if 37 with fail
 go_cut [4,37] from 38 to 50 (fun v4 _ wz=>v4= .pointer (some ⟨g,0,none⟩)/\∃(pa:List Part) (A5:Option Addr) (c5:Nat),((∀x∈pa,In 2 x.aeT/\N9 x.x/\N9 x.y)/\pa.length<=1)/\GV w m g 0 none fs lp #[.string ⟨(jS n).toArray⟩,.int .i64 adv,.bool mk,.slice A3 p.length c3,.slice A4 es.length c4,.slice A5 pa.length c5,.slice none 0 0,.slice none 0 0,.slice none 0 0] p A3 es A4 pa A5 c5 [] none 0 [] none 0 wz)
 case first=>
  cases q with
  |true=>
   have q5:w8.cell? ⟨g,5,none⟩=some (.slice none 0 0):=H8.out.var.cell 5;have hgm:g≠m:=by omega
   have bH:True:=trivial;have dY:True:=trivial;go_wp2_with fail
   go_region_with (first
    |(go_at_call 36;have _t:=bH;refine(ay _ m fs lp 9 (by exact H8.out.mkr) (by omega) (by omega)).mono ?_;rintro e w9 ⟨x,hx,rfl,hm9,hv9⟩;have q59:=dh hv9 hgm q5;clear _t bH)
    |(go_at_call 36;have _t:=dY;refine(ay _ m fs lp 5 (by exact hm9) (by omega) (by omega)).mono ?_;rintro e wA ⟨y,hy,rfl,hmA,hvA⟩;have q5A:=dh hvA hgm q59;have HA:=(H8.out.drew.next hm9 hv9).next hmA hvA;have zA:=HA.var.lt;obtain⟨B,d,wB,hrun,x9,y9,z9,k9,h9⟩:=HA.agi hmw hg (n:=0) rfl rfl (by omega) 1 (IntKind.i64.wrap (IntKind.i64.wrap ((x:Int)*50) - 200)) (IntKind.i64.wrap ((y:Int)*50));have H9:=hd0 h9;clear _t dY HA h9))
   all_goals
    go_wp2_with fail
    go_meet
    refine⟨rfl,[⟨1,IntKind.i64.wrap (IntKind.i64.wrap ((x:Int)*50) - 200),IntKind.i64.wrap ((y:Int)*50)⟩],B,d,⟨fun z hz=> ?_,by simp⟩,H9.out⟩;simp only[agF] at hz;subst hz;rw[wrap_in ((x:Int)*50) (by omega) (by omega),wrap_in ((x:Int)*50 - 200) (by omega) (by omega),wrap_in ((y:Int)*50) (by omega) (by omega)];exact⟨⟨show(0:Int)<=1 by decide,show(1:Int)<2 by decide⟩,show N9 ((x:Int)*50 - 200) by unfold N9;omega,show N9 ((y:Int)*50) by unfold N9;omega⟩
  |false=>
   go_wp2_with fail
   go_meet
   exact⟨rfl,[],none,0,by simp,H8.out⟩
 case rest=>
 obtain⟨rfl,pa,A5,c5,hpa,hgv⟩:=hcut;obtain⟨wD,rfl⟩:∃x,x=wc:=⟨_,rfl⟩
 have HD:=hd0 hgv;have HPA:=hd0 hpa;clear hgv H8 hpa;go_wp2_with fail
 refine(ay wD m fs lp 2 HD.out.mkr (by omega) (by omega)).mono ?_;rintro e wE ⟨y,hy,rfl,hmE,hvE⟩;have HE:=hd0 (HD.out.next hmE hvE);clear hmE hvE HD
 go_upto_region 8 with fail
 obtain⟨wF,hwF⟩:∃wF,wE.alloc (.cells #[.int .i64 1,.int .i64 0,.int .i64 1,.int .i64 1,.int .i64 3,.int .i64 0,.int .i64 4,.int .i64 0,.int .i64 2,.int .i64 y] Dj)=wF:=⟨_,rfl⟩
 have HFk:Hid (GV w m g wE.heap.size (some #[.int .i64 1,.int .i64 0,.int .i64 1,.int .i64 1,.int .i64 3,.int .i64 0,.int .i64 4,.int .i64 0,.int .i64 2,.int .i64 y]) fs lp #[.string ⟨(jS n).toArray⟩,.int .i64 adv,.bool mk,.slice A3 p.length c3,.slice A4 es.length c4,.slice A5 pa.length c5,.slice none 0 0,.slice none 0 0,.slice none 0 0] p A3 es A4 pa A5 c5 [] none 0 [] none 0 wF):=by rw[<-hwF];exact hd0 ((HE.out.below ((agE _ _).alloc (ai _) _)).pairs (Bk.new _ _ _))
 rw[hwF];clear hwF HE;generalize wE.heap.size=kb at*
 go_wp2_with fail
 go_loopw [6] (fun i wr=>∃(k:Nat) (an:List ae5) (A6:Option Addr) (c6:Nat),k<=5/\i= .int .i64 k/\Hid (((∀a∈an,1<=a.kind/\a.kind<=4/\N9 a.cls/\N9 a.x/\N9 a.y)/\an.length<=k))/\Hid (GV w m g kb (some #[.int .i64 1,.int .i64 0,.int .i64 1,.int .i64 1,.int .i64 3,.int .i64 0,.int .i64 4,.int .i64 0,.int .i64 2,.int .i64 y]) fs lp #[.string ⟨(jS n).toArray⟩,.int .i64 adv,.bool mk,.slice A3 p.length c3,.slice A4 es.length c4,.slice A5 pa.length c5,.slice A6 an.length c6,.slice none 0 0,.slice none 0 0] p A3 es A4 pa A5 c5 an A6 c6 [] none 0 wr)) (fun i _=>5 - (intOf i).toNat)
 case atStart=>exact⟨0,[],none,0,by omega,rfl,hd0 (by simp),HFk⟩
 case round=>
  obtain⟨wa,rfl⟩:∃x,x=wr:=⟨_,rfl⟩
  obtain⟨k,an,A6,c6,hk,rfl,hoa,HL⟩:=hrel;by_cases hlt:k<5
  ·obtain⟨kd,cl,ek,ec,abM,abx,hcl⟩:=QI k y hlt hy
   go_upto_region 11 with fail
   go_cut [77] from 59 to 100 (fun v77 wz=>∃q:Bool,v77= .bool q/\GV w m g kb (some #[.int .i64 1,.int .i64 0,.int .i64 1,.int .i64 1,.int .i64 3,.int .i64 0,.int .i64 4,.int .i64 0,.int .i64 2,.int .i64 y]) fs lp #[.string ⟨(jS n).toArray⟩,.int .i64 adv,.bool mk,.slice A3 p.length c3,.slice A4 es.length c4,.slice A5 pa.length c5,.slice A6 an.length c6,.slice none 0 0,.slice none 0 0] p A3 es A4 pa A5 c5 an A6 c6 [] none 0 wz)
   case first=>
    go_wp2_with fail
    refine(ay wa m fs lp 3 HL.out.mkr (by omega) (by omega)).mono ?_;rintro e wb ⟨x,hx,rfl,hmb,hvb⟩;have HB:=hd0 (HL.out.next hmb hvb);clear hmb hvb;have xk:wb.cell? ⟨kb,k*2,none⟩=some (.int .i64 kd):=by rw[(HB.out.kin _ rfl).cell];exact ek
    have xm:wb.cell? ⟨g,2,none⟩=some (.bool mk):=HB.out.var.cell 2;by_cases hx0:x=0
    ·have e0:((x:Int)==0)=true:=by simp;omega
     by_cases h2:kd=2
     ·have e2:(kd !=2)=false:=by simp[h2]
      go_wp2_with fail
      go_meet
      exact⟨mk,rfl,HB.out⟩
     have e2:(kd !=2)=true:=by simpa using h2
     go_wp2_with fail
     go_meet
     exact⟨true,rfl,HB.out⟩
    have e0:((x:Int)==0)=false:=by simp;omega
    go_wp2_with fail
    go_meet
    exact⟨false,rfl,HB.out⟩
   case rest=>
   obtain⟨q,rfl,hgv⟩:=hcut;obtain⟨wb,rfl⟩:∃x,x=wc:=⟨_,rfl⟩
   have HB:=hd0 hgv;clear hgv HL
   go_upto_if 77 with fail
   cases q with
   |true=>
    have xk:wb.drew.cell? ⟨kb,k*2,none⟩=some (.int .i64 kd):=by show wb.cell? _=_;rw[(HB.out.kin _ rfl).cell];exact ek
    have xc:wb.drew.cell? ⟨kb,k*2+1,none⟩=some (.int .i64 cl):=by show wb.cell? _=_;rw[(HB.out.kin _ rfl).cell];exact ec
    have q6:wb.cell? ⟨g,6,none⟩=some (.slice A6 an.length c6):=HB.out.var.cell 6;have hgm:g≠m:=by omega
    have zgb:=HB.out.var.lt;have zkb:=(HB.out.kin _ rfl).lt;have hal:=hoa.out.2;have bH:True:=trivial;have dY:True:=trivial;go_wp2_with fail
    rw[show Op.load 53 (Operand.tmp 78)=Wi from rfl]
    go_region_held3 (fun w'=>w'.cell? ⟨kb,k*2,none⟩=some (.int .i64 kd)/\w'.cell? ⟨kb,k*2+1,none⟩=some (.int .i64 cl))
     (first
      |with_reducible exact⟨xk,xc⟩
      |with_reducible exact⟨xk3,xc3⟩
      |with_reducible exact⟨V7,Zq⟩
      |with_reducible exact⟨Ut _ V7,Ut _ Zq⟩
      |with_reducible exact⟨xk9,xc9⟩
      |with_reducible exact⟨xks,xcs⟩
      |go_keep)
     (first
      |(go_at_call 36;have _t:=bH;refine(ay _ m fs lp 21 (by exact HB.out.mkr) (by omega) (by omega)).mono ?_;rintro e w3 ⟨x1,hx1,rfl,aX,hv3⟩;have q63:=dh hv3 hgm q6;have H3:=HB.out.drew.next aX hv3;have xk3:w3.cell? ⟨kb,k*2,none⟩=some (.int .i64 kd):=((H3.kin _ rfl).cell _).trans ek;have xc3:w3.cell? ⟨kb,k*2+1,none⟩=some (.int .i64 cl):=((H3.kin _ rfl).cell _).trans ec;have zg3:=H3.var.lt;clear _t bH H3)
      |(go_at_call 36;have _t:=dY;refine(ay _ m fs lp 21 (by exact aX) (by omega) (by omega)).mono ?_;rintro e w4 ⟨x2,hx2,rfl,hm4,hv4⟩;have q64:=dh hv4 hgm q63;have H4:=(HB.out.drew.next aX hv3).next hm4 hv4;have V7:w4.cell? ⟨kb,k*2,none⟩=some (.int .i64 kd):=((H4.kin _ rfl).cell _).trans ek;have Zq:w4.cell? ⟨kb,k*2+1,none⟩=some (.int .i64 cl):=((H4.kin _ rfl).cell _).trans ec;have zg4:=H4.var.lt;obtain⟨B,d,w9,hrun,x9,y9,z9,k9,h9⟩:=H4.agh hmw hg (n:=an.length) rfl rfl (by omega) kd cl (IntKind.i64.wrap ((x1:Int)*50)) (IntKind.i64.wrap (IntKind.i64.wrap ((x2:Int)*50) - 200));have xk9:w9.cell? ⟨kb,k*2,none⟩=some (.int .i64 kd):=((k9 _ rfl).cell _).trans ek;have xc9:w9.cell? ⟨kb,k*2+1,none⟩=some (.int .i64 cl):=((k9 _ rfl).cell _).trans ec;have xks:(w9.setCell ⟨g,6,none⟩ (.slice B (an.length+1) d)).cell? ⟨kb,k*2,none⟩=some (.int .i64 kd):=((h9.kin _ rfl).cell _).trans ek;have xcs:(w9.setCell ⟨g,6,none⟩ (.slice B (an.length+1) d)).cell? ⟨kb,k*2+1,none⟩=some (.int .i64 cl):=((h9.kin _ rfl).cell _).trans ec;have H9:=hd0 h9;clear _t dY H4 h9))
    all_goals
     have hl2:(an++[(⟨kd,cl,IntKind.i64.wrap ((x1:Int)*50),IntKind.i64.wrap (IntKind.i64.wrap ((x2:Int)*50) - 200)⟩:ae5)]).length=an.length+1:=by simp
     have abX:Hid ((∀a∈an++[(⟨kd,cl,IntKind.i64.wrap ((x1:Int)*50),IntKind.i64.wrap (IntKind.i64.wrap ((x2:Int)*50) - 200)⟩:ae5)],1<=a.kind/\a.kind<=4/\N9 a.cls/\N9 a.x/\N9 a.y)/\(an++[(⟨kd,cl,IntKind.i64.wrap ((x1:Int)*50),IntKind.i64.wrap (IntKind.i64.wrap ((x2:Int)*50) - 200)⟩:ae5)]).length<=k+1):=hd0 ⟨fun a ha=>by
      rw[agJ,agF] at ha;rcases ha with ha|rfl
      ·exact hoa.out.1 a ha
      exact⟨abM,abx,hcl,(Tu x1 hx1),(DR x2 hx2).2⟩,by rw[hl2];omega⟩
     have OY:Hid (GV w m g kb (some #[.int .i64 1,.int .i64 0,.int .i64 1,.int .i64 1,.int .i64 3,.int .i64 0,.int .i64 4,.int .i64 0,.int .i64 2,.int .i64 y]) fs lp #[.string ⟨(jS n).toArray⟩,.int .i64 adv,.bool mk,.slice A3 p.length c3,.slice A4 es.length c4,.slice A5 pa.length c5,.slice B (an++[(⟨kd,cl,IntKind.i64.wrap ((x1:Int)*50),IntKind.i64.wrap (IntKind.i64.wrap ((x2:Int)*50) - 200)⟩:ae5)]).length d,.slice none 0 0,.slice none 0 0] p A3 es A4 pa A5 c5 (an++[(⟨kd,cl,IntKind.i64.wrap ((x1:Int)*50),IntKind.i64.wrap (IntKind.i64.wrap ((x2:Int)*50) - 200)⟩:ae5)]) B d [] none 0 (w9.setCell ⟨g,6,none⟩ (.slice B (an.length+1) d))):=by rw[hl2];exact H9
     clear xk xc xk3 xc3 V7 Zq xk9 xc9 xks xcs q6 q63 q64 hl2 H9 hrun x9 y9 z9 k9;go_wp2_with fail
     go_roundw
     case rel=>exact⟨k+1,an++[(⟨kd,cl,IntKind.i64.wrap ((x1:Int)*50),IntKind.i64.wrap (IntKind.i64.wrap ((x2:Int)*50) - 200)⟩:ae5)],B,d,by omega,by simp,abX,OY⟩
     case measure=>simp[intOf];omega
   |false=>
    go_wp2_with fail
    go_roundw
    case rel=>exact⟨k+1,an,A6,c6,by omega,by simp,hd0 ⟨hoa.out.1,by have:=hoa.out.2;omega⟩,HB⟩
    case measure=>simp[intOf];omega
  have x8:wa.cell? ⟨m,8,none⟩=some (.slice Ar nr cr):=HL.out.mkr.at' 6 (by omega) H6.out;have oK:Hid ((∀a∈an,1<=a.kind/\a.kind<=4/\N9 a.cls/\N9 a.x/\N9 a.y)/\an.length<=5):=hd0 ⟨hoa.out.1,nt hoa.out.2 hk⟩;clear hoa;go_wp2_with fail
  go_loopw [7] (fun i wr=>∃(r:Nat) (de:List Delta) (A7:Option Addr) (c7:Nat),r<=nr/\i= .int .i64 r/\Hid ((∀d∈de,N9 d.region/\N9 d.point/\N9 d.x/\N9 d.y)/\de.length<=11*r)/\Hid (GV w m g kb (some #[.int .i64 1,.int .i64 0,.int .i64 1,.int .i64 1,.int .i64 3,.int .i64 0,.int .i64 4,.int .i64 0,.int .i64 2,.int .i64 y]) fs lp #[.string ⟨(jS n).toArray⟩,.int .i64 adv,.bool mk,.slice A3 p.length c3,.slice A4 es.length c4,.slice A5 pa.length c5,.slice A6 an.length c6,.slice A7 de.length c7,.slice none 0 0] p A3 es A4 pa A5 c5 an A6 c6 de A7 c7 wr)) (fun i _=>nr - (intOf i).toNat)
  case atStart=>exact⟨0,[],none,0,nz _,rfl,hd0 (by simp),HL⟩
  case round=>
   obtain⟨wb,rfl⟩:∃x,x=wr:=⟨_,rfl⟩
   obtain⟨r,de,A7,c7,hr,rfl,hod,HB⟩:=hrel;have x8:wb.cell? ⟨m,8,none⟩=some (.slice Ar nr cr):=HB.out.mkr.at' 6 (by omega) H6.out;by_cases hlt:r<nr
   ·have x3:wb.cell? ⟨g,3,none⟩=some (.slice A3 p.length c3):=HB.out.var.cell 3;go_wp2_with fail
    go_loopw [8] (fun i wr=>∃(pp:Nat) (de:List Delta) (A7:Option Addr) (c7:Nat),pp<=p.length+1/\i= .int .i64 ((pp:Int) - 1)/\Hid ((∀d∈de,N9 d.region/\N9 d.point/\N9 d.x/\N9 d.y)/\de.length<=11*r+pp)/\Hid (GV w m g kb (some #[.int .i64 1,.int .i64 0,.int .i64 1,.int .i64 1,.int .i64 3,.int .i64 0,.int .i64 4,.int .i64 0,.int .i64 2,.int .i64 y]) fs lp #[.string ⟨(jS n).toArray⟩,.int .i64 adv,.bool mk,.slice A3 p.length c3,.slice A4 es.length c4,.slice A5 pa.length c5,.slice A6 an.length c6,.slice A7 de.length c7,.slice none 0 0] p A3 es A4 pa A5 c5 an A6 c6 de A7 c7 wr)) (fun i _=>(p.length - intOf i).toNat)
    case atStart=>exact⟨0,de,A7,c7,nz _,rfl,hod,HB⟩
    case round=>
     obtain⟨wd,rfl⟩:∃x,x=wr:=⟨_,rfl⟩
     clear x8 x3 hod HB;obtain⟨pp,de,A7,c7,hpp,rfl,hod,HD⟩:=hrel;have x3:wd.cell? ⟨g,3,none⟩=some (.slice A3 p.length c3):=HD.out.var.cell 3;by_cases hlt2:pp<p.length+1
     ·go_wp2_with fail
      refine(ay wd m fs lp 3 HD.out.mkr (by omega) (by omega)).mono ?_;rintro e we ⟨x,hx,rfl,hme,hve⟩;have HE:=hd0 (HD.out.next hme hve);clear hme hve x3;by_cases hx0:x=0
      ·have e0:((x:Int)==0)=true:=by simp;omega
       have hdl:=hod.out.2;go_wp2_with fail
       refine(ay we m fs lp 41 HE.out.mkr (by omega) (by omega)).mono ?_;rintro e wf ⟨x1,hx1,rfl,hmf,Ox⟩;have Ba:=hd0 (HE.out.next hmf Ox);clear hmf Ox HE;by_cases hp0:pp=0
       ·have e1:decide ((1:Int)<=(pp:Int))=false:=by simp;omega
        clear hp0;have HW:=hd0 (Ba.out.below ((agE wf.heap.size wf).alloc (ai _) (.cells #[.int .i64 r,.int .i64 ((pp:Int) - 1),.int .i64 ((x1:Int) - 20),.int .i64 0] jZ)));have x7:wf.cell? ⟨g,7,none⟩=some (.slice A7 de.length c7):=Ba.out.var.cell 7;have zgf:=Ba.out.var.lt;have hgf:¬(g=wf.heap.size):=by omega
        obtain⟨B,d,w9,hrun,x9,y9,z9,k9,h9⟩:=HW.out.af1 hmw hg (n:=de.length) rfl rfl (by omega) (r:Int) ((pp:Int) - 1) ((x1:Int) - 20) 0;rw[World.size_alloc] at hrun;clear Ba HW;have H9:=hd0 h9;have hl2:(de++[(⟨(r:Int),(pp:Int) - 1,(x1:Int) - 20,0⟩:Delta)]).length=de.length+1:=by simp
        have SS:Hid ((∀d∈de++[(⟨(r:Int),(pp:Int) - 1,(x1:Int) - 20,0⟩:Delta)],N9 d.region/\N9 d.point/\N9 d.x/\N9 d.y)/\(de++[(⟨(r:Int),(pp:Int) - 1,(x1:Int) - 20,0⟩:Delta)]).length<=11*r+(pp+1)):=hd0 ⟨fun z hz=>by
         rw[agJ,agF] at hz;rcases hz with hz|rfl
         ·exact hod.out.1 z hz
         exact⟨show N9 (r:Int) by unfold N9;omega,show N9 ((pp:Int) - 1) by unfold N9;omega,show N9 ((x1:Int) - 20) by unfold N9;omega,show N9 (0) by unfold N9;omega⟩,by rw[hl2];omega⟩
        have OY:Hid (GV w m g kb (some #[.int .i64 1,.int .i64 0,.int .i64 1,.int .i64 1,.int .i64 3,.int .i64 0,.int .i64 4,.int .i64 0,.int .i64 2,.int .i64 y]) fs lp #[.string ⟨(jS n).toArray⟩,.int .i64 adv,.bool mk,.slice A3 p.length c3,.slice A4 es.length c4,.slice A5 pa.length c5,.slice A6 an.length c6,.slice B (de++[(⟨(r:Int),(pp:Int) - 1,(x1:Int) - 20,0⟩:Delta)]).length d,.slice none 0 0] p A3 es A4 pa A5 c5 an A6 c6 (de++[(⟨(r:Int),(pp:Int) - 1,(x1:Int) - 20,0⟩:Delta)]) B d (w9.setCell ⟨g,7,none⟩ (.slice B (de.length+1) d))):=by rw[hl2];exact H9
        clear hl2 h9 H9 k9;go_wp2_with (at_builtin;refine Ub rfl (.tmp 135) (.tmp 137) rfl rfl rfl hrun ?_;clear hrun)
        go_roundw
        case rel=>exact⟨pp+1,de++[(⟨(r:Int),(pp:Int) - 1,(x1:Int) - 20,0⟩:Delta)],B,d,by omega,by simp,SS,OY⟩
        case measure=>simp[intOf];omega
       have e1:decide ((1:Int)<=(pp:Int))=true:=by simp;omega
       clear hp0;go_wp2_with fail
       obtain⟨W1,hW1⟩:∃W1,wf.alloc (.cells #[.int .i64 r,.int .i64 ((pp:Int) - 1),.int .i64 ((x1:Int) - 20),.int .i64 0] jZ)=W1:=⟨_,rfl⟩
       have HW1:Hid (GV w m g kb (some #[.int .i64 1,.int .i64 0,.int .i64 1,.int .i64 1,.int .i64 3,.int .i64 0,.int .i64 4,.int .i64 0,.int .i64 2,.int .i64 y]) fs lp #[.string ⟨(jS n).toArray⟩,.int .i64 adv,.bool mk,.slice A3 p.length c3,.slice A4 es.length c4,.slice A5 pa.length c5,.slice A6 an.length c6,.slice A7 de.length c7,.slice none 0 0] p A3 es A4 pa A5 c5 an A6 c6 de A7 c7 W1):=by rw[<-hW1];exact hd0 (Ba.out.below ((agE _ _).alloc (ai _) _))
       have b4:Bk W1 wf.heap.size jZ #[.int .i64 r,.int .i64 ((pp:Int) - 1),.int .i64 ((x1:Int) - 20),.int .i64 0]:=by rw[<-hW1];exact Bk.new _ _ _
       have abl:=Ba.out.des;have hgf:¬(g=wf.heap.size):=by have:=Ba.out.var.lt;omega
       have hfz:=Ba.out.mv.size;rw[hW1];clear hW1 Ba;refine(ay W1 m fs lp 41 HW1.out.mkr (by omega) (by omega)).mono ?_;rintro e wg ⟨x2,hx2,rfl,hmg,WC⟩;have b5:=(Sp.next HW1.out.mkr WC).bk b4 (by decide);have Uu:=hd0 (HW1.out.next hmg WC);have d3:wg.cell? ⟨wf.heap.size,3,none⟩=some (.int .i64 0):=b5.cell 3;have y3:=b5.frozen 3;have zb5:=b5.lt;clear hmg WC HW1 b4;have x7:wg.cell? ⟨g,7,none⟩=some (.slice A7 de.length c7):=Uu.out.var.cell 7;have d0:wg.cell? ⟨wf.heap.size,0,none⟩=some (.int .i64 r):=b5.cell 0;have d1:wg.cell? ⟨wf.heap.size,1,none⟩=some (.int .i64 ((pp:Int) - 1)):=b5.cell 1;have d2:wg.cell? ⟨wf.heap.size,2,none⟩=some (.int .i64 ((x1:Int) - 20)):=b5.cell 2;have zgg:=Uu.out.var.lt;have HW:=hd0 (Uu.out.box hmw b5 (fun x hx=>(abl.lt x hx).2) hfz 3 (.int .i64 ((x2:Int) - 20)));obtain⟨B,d,w9,hrun,x9,y9,z9,k9,h9⟩:=HW.out.af1 hmw hg (n:=de.length) rfl rfl (by omega) (r:Int) ((pp:Int) - 1) ((x1:Int) - 20) ((x2:Int) - 20);rw[World.size_setCell] at hrun;clear b5 Uu HW;have H9:=hd0 h9;have hl2:(de++[(⟨(r:Int),(pp:Int) - 1,(x1:Int) - 20,(x2:Int) - 20⟩:Delta)]).length=de.length+1:=by simp
       have SS:Hid ((∀d∈de++[(⟨(r:Int),(pp:Int) - 1,(x1:Int) - 20,(x2:Int) - 20⟩:Delta)],N9 d.region/\N9 d.point/\N9 d.x/\N9 d.y)/\(de++[(⟨(r:Int),(pp:Int) - 1,(x1:Int) - 20,(x2:Int) - 20⟩:Delta)]).length<=11*r+(pp+1)):=hd0 ⟨fun z hz=>by
        rw[agJ,agF] at hz;rcases hz with hz|rfl
        ·exact hod.out.1 z hz
        exact⟨show N9 (r:Int) by unfold N9;omega,show N9 ((pp:Int) - 1) by unfold N9;omega,show N9 ((x1:Int) - 20) by unfold N9;omega,show N9 ((x2:Int) - 20) by unfold N9;omega⟩,by rw[hl2];omega⟩
       have OY:Hid (GV w m g kb (some #[.int .i64 1,.int .i64 0,.int .i64 1,.int .i64 1,.int .i64 3,.int .i64 0,.int .i64 4,.int .i64 0,.int .i64 2,.int .i64 y]) fs lp #[.string ⟨(jS n).toArray⟩,.int .i64 adv,.bool mk,.slice A3 p.length c3,.slice A4 es.length c4,.slice A5 pa.length c5,.slice A6 an.length c6,.slice B (de++[(⟨(r:Int),(pp:Int) - 1,(x1:Int) - 20,(x2:Int) - 20⟩:Delta)]).length d,.slice none 0 0] p A3 es A4 pa A5 c5 an A6 c6 (de++[(⟨(r:Int),(pp:Int) - 1,(x1:Int) - 20,(x2:Int) - 20⟩:Delta)]) B d (w9.setCell ⟨g,7,none⟩ (.slice B (de.length+1) d))):=by rw[hl2];exact H9
       clear hl2 h9 H9 k9;go_wp2_with (at_builtin;refine Ub rfl (.tmp 135) (.tmp 137) rfl rfl rfl hrun ?_;clear hrun)
       go_roundw
       case rel=>exact⟨pp+1,de++[(⟨(r:Int),(pp:Int) - 1,(x1:Int) - 20,(x2:Int) - 20⟩:Delta)],B,d,by omega,by simp,SS,OY⟩
       case measure=>simp[intOf];omega
      have e0:((x:Int)==0)=false:=by simp;omega
      go_wp2_with fail
      go_roundw
      case rel=>exact⟨pp+1,de,A7,c7,by omega,by simp,hd0 ⟨hod.out.1,by have:=hod.out.2;omega⟩,HE⟩
      case measure=>simp[intOf];omega
     obtain rfl:pp=p.length+1:=by omega
     go_wp2_with fail
     go_roundw
     case rel=>exact⟨r+1,de,A7,c7,by omega,by simp,hd0 ⟨hod.out.1,by have:=hod.out.2;omega⟩,HD⟩
     case measure=>simp[intOf];omega
   have c11:wb.cell? ⟨m,11,none⟩=some (.int .i64 lp):=HB.out.mkr.cells.2;have f11:=HB.out.mkr.frozen 11;have zm:=HB.out.mkr.lt;have QS:Hid ((∀d∈de,N9 d.region/\N9 d.point/\N9 d.x/\N9 d.y)/\de.length<=40):=hd0 ⟨hod.out.1,by have:=hod.out.2;omega⟩;have acK:=QS.out.2
   go_upto_region 25 with fail
   have HC:Hid (GV w m g kb (some #[.int .i64 1,.int .i64 0,.int .i64 1,.int .i64 1,.int .i64 3,.int .i64 0,.int .i64 4,.int .i64 0,.int .i64 2,.int .i64 y]) fs 2 #[.string ⟨(jS n).toArray⟩,.int .i64 adv,.bool mk,.slice A3 p.length c3,.slice A4 es.length c4,.slice A5 pa.length c5,.slice A6 an.length c6,.slice A7 de.length c7,.slice none 0 0] p A3 es A4 pa A5 c5 an A6 c6 de A7 c7 (wb.setCell ⟨m,11,none⟩ (.int .i64 2))):=hd0 (HB.out.next (HB.out.mkr.loops 2) (HB.out.mkr.mvp 11 _));obtain⟨wq,hwq⟩:∃wq,wb.setCell ⟨m,11,none⟩ (.int .i64 2)=wq:=⟨_,rfl⟩
   rw[hwq] at HC ⊢;clear hwq c11 f11 x8 HB hod;have x3:wq.cell? ⟨g,3,none⟩=some (.slice A3 p.length c3):=HC.out.var.cell 3;have x9m:wq.cell? ⟨m,9,none⟩=some (.slice Af nf cf):=HC.out.mkr.at' 7 (by omega) H7.out;have zgq:=HC.out.var.lt;have hgm:g≠m:=by omega
   have bH:True:=trivial
   go_region_with (go_at_call 37;have _t:=bH;refine(Js _ m fs 2 p.length nf 6 (by exact HC.out.mkr) (by omega) (by omega) (by omega) (by omega) (by omega)).mono ?_;rintro e wr ⟨hi,Ah,ch,lp2,hhi,hhl,RU,rfl,hcap,shi,hmr,hvr⟩;have HR:=HC.out.drew.next hmr hvr;have q8:wr.cell? ⟨g,8,none⟩=some (.slice none 0 0):=HR.var.cell 8;have f8:=HR.var.frozen 8;have zgr:=HR.var.lt;have HR':=hd0 HR;have HSI:=hd0 shi;have HHI:=hd0 hhi;clear _t bH HR hmr hvr shi)
   all_goals
    have HT:Hid (GV w m g kb (some #[.int .i64 1,.int .i64 0,.int .i64 1,.int .i64 1,.int .i64 3,.int .i64 0,.int .i64 4,.int .i64 0,.int .i64 2,.int .i64 y]) fs lp2 #[.string ⟨(jS n).toArray⟩,.int .i64 adv,.bool mk,.slice A3 p.length c3,.slice A4 es.length c4,.slice A5 pa.length c5,.slice A6 an.length c6,.slice A7 de.length c7,.slice Ah hi.length ch] p A3 es A4 pa A5 c5 an A6 c6 de A7 c7 (wr.setCell ⟨g,8,none⟩ (.slice Ah hi.length ch))):=hd0 (HR'.out.put hmw hg 8 _);have HST:Hid (Sl ae9 2 (wr.setCell ⟨g,8,none⟩ (.slice Ah hi.length ch)) (TS [kN] w.heap.size (wr.setCell ⟨g,8,none⟩ (.slice Ah hi.length ch))) Ah hi):=hd0 ((Sp.set (m:=m) HR'.out.var (by omega) 8 (.slice Ah hi.length ch)).sl ae9.ok (by decide) (HSI.out.ts ae9.ok (fun _ h=>h) (by have:=HC.out.mv.size;exact this)));obtain⟨wt,hwt⟩:∃wt,wr.setCell ⟨g,8,none⟩ (.slice Ah hi.length ch)=wt:=⟨_,rfl⟩
    try go_upto_region 26 with fail
    rw[hwt] at HT HST ⊢;clear hwt q8 f8 zgr HR' HSI x3 x9m zgq HC;have hvt:=HT.out.mv;have Ym:=hd0 (Om abd.out hvt hmb);have hzt:=hvt.size;have x0:wt.cell? ⟨g,0,none⟩=some (.string ⟨(jS n).toArray⟩):=HT.out.var.cell 0;have x1:wt.cell? ⟨g,1,none⟩=some (.int .i64 adv):=HT.out.var.cell 1;have x2:wt.cell? ⟨g,2,none⟩=some (.bool mk):=HT.out.var.cell 2;have x3:wt.cell? ⟨g,3,none⟩=some (.slice A3 p.length c3):=HT.out.var.cell 3;have x4:wt.cell? ⟨g,4,none⟩=some (.slice A4 es.length c4):=HT.out.var.cell 4;have x5:wt.cell? ⟨g,5,none⟩=some (.slice A5 pa.length c5):=HT.out.var.cell 5;have x6:wt.cell? ⟨g,6,none⟩=some (.slice A6 an.length c6):=HT.out.var.cell 6;have x7:wt.cell? ⟨g,7,none⟩=some (.slice A7 de.length c7):=HT.out.var.cell 7;have x8:wt.cell? ⟨g,8,none⟩=some (.slice Ah hi.length ch):=HT.out.var.cell 8;have xm:wt.cell? ⟨m,3,none⟩=some (.slice Ag G cg):=HT.out.mkr.at' 1 (by omega) HF.out;have zgt:=HT.out.var.lt;have zmt:=HT.out.mkr.lt;obtain⟨B,d,w9,hrun,dG,dA,rE⟩:=bQ J5 24 wt.drew base _ cg Ag _ #[.string ⟨(jS n).toArray⟩,.int .i64 adv,.bool mk,.slice A3 p.length c3,.slice A4 es.length c4,.slice A5 pa.length c5,.slice A6 an.length c6,.slice A7 de.length c7,.slice Ah hi.length ch] rfl (show wt.drew.ownsRow base fE 9 (.slice Ag G cg) G gcs from Ym.out) (by simp[Value.oneCell']) (by omega) (show base<=wt.heap.size by omega);have hTd:=HT.out.drew;have s9:Sp m fE wt.drew w9:=Sp.push (show wt.drew.ownsRow base fE 9 (.slice Ag G cg) G gcs from Ym.out) (by omega) dA;have mf:=s9.mk hTd.mkr (by decide);have xm9:w9.cell? ⟨m,3,none⟩=some (.slice Ag G cg):=mf.at' 1 (by omega) HF.out;have f9:=mf.frozen 3;have z9:=mf.lt;have s10:=mf.sp 3 (.slice B (G+1) d);have LC:(Builtin.append_ #[24,24] 24 #[.slice Ag G cg,.slice (some ⟨wt.heap.size,0,none⟩) 1 1]).run Tryd.prog (wt.alloc (.cells #[.string ⟨(jS n).toArray⟩,.int .i64 adv,.bool mk,.slice A3 p.length c3,.slice A4 es.length c4,.slice A5 pa.length c5,.slice A6 an.length c6,.slice A7 de.length c7,.slice Ah hi.length ch] fE)).drew= .ok (.slice B (G+1) d) w9:=hrun;have hpost:JO w m fs n Ag G cg base gcs (.returned (.tuple #[])) (w9.setCell ⟨m,3,none⟩ (.slice B (G+1) d)):=by
     refine⟨⟨jS n,adv,mk,p,es,pa,an,de,hi⟩,[.string ⟨(jS n).toArray⟩,.int .i64 adv,.bool mk,.slice A3 p.length c3,.slice A4 es.length c4,.slice A5 pa.length c5,.slice A6 an.length c6,.slice A7 de.length c7,.slice Ah hi.length ch],B,d,lp2,afB.make hn hadv Y6.out hk2 HPA.out oK.out QS.out ⟨HHI.out,by omega⟩,rfl,mf.put 1 (by omega) _,s10.own dG (by decide),rfl,?_,?_⟩
     ·refine⟨A3,c3,A4,c4,A5,c5,A6,c6,A7,c7,Ah,ch,rfl,je hadv,KF PtR.ok s9 s10 (by decide) hTd.pts,KF aeQ.ok s9 s10 (by decide) hTd.ends,KF afg.ok s9 s10 (ts:=[pK]) (by decide) (cZ hTd.pas (Rx _ _ _ fun z hz=> ?_) (by simp) (ai _) (by omega)),KF ae6.ok s9 s10 (ts:=[pq]) (by decide) (cZ hTd.ans (Su _ _ _ fun z hz=> ?_) (by simp) (ai _) (by omega)),KF afc.ok s9 s10 (ts:=[jZ]) (by decide) (cZ hTd.des (SB _ _ _ fun z hz=> ?_) (by simp) (ai _) (by omega)),KF ae9.ok s9 s10 (ts:=[kN]) (by decide) HST.out⟩
      ·have h:=HPA.out.1 z hz;exact⟨⟨by have:=h.1.1;omega,by have:=h.1.2;omega⟩,je h.2.1,je h.2.2⟩
      ·have h:=oK.out.1 z hz;exact⟨⟨by omega,by omega⟩,je h.2.2.1,je h.2.2.2.1,je h.2.2.2.2⟩
      have h:=QS.out.1 z hz;exact⟨je h.1,je h.2.1,je h.2.2.1,je h.2.2.2⟩
     exact(((iW hvt (agE _ _).drew).two (row:=(Value.slice Ag G cg).ownBlock)).step dA (fun x hx=> .inr (.inr hx))).step (mf.mvp 3 _) (fun x hx=>by injection hx with hx;exact .inr (.inl hx.symm))
    have BO:=hd0 hpost;clear hpost s9 s10 mf hTd dG dA rE hrun hvt Ym HST;go_wp2_with fail
    go_region
    all_goals
     go_end0
     exact BO.out
end Go.Proofs.YtkijckccfookeaaDoor
