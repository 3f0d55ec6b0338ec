/- Lemmas. -/
import Derived.Test.YtkijckccfookeaaDoorX32
import Derived.Test.YtkijckccfookeaaDoorMkRl
import Derived.Test.YtkijckccfookeaaDoorMkRs
import Derived.Test.YtkijckccfookeaaDoorX28
set_option linter.unusedVariables false
set_option linter.unusedSimpArgs false
set_option maxRecDepth 100000
set_option maxHeartbeats 32000000
namespace Go.Proofs.YtkijckccfookeaaDoor
open Go.RowKit
attribute [-go_sem] Builtin.append_
theorem VM {w:World}(o:Obj){a:Addr}{v:Value}(h:w.cell? a=some v):(w.alloc o).cell? a=some v:=(Bv (World.grownBy.refl w none) o).cell h (by simp)
theorem Rn (w:World)(m:Nat)(fs:Nat->Value)(lp:Int)(G:Nat)(Ag:Option Addr)(cg:Nat)(kind:Int)(Ac:Option Addr)(cc:Nat)(h:Mk w m fs lp)(hf:fs 1= .slice Ag G cg)(h1:1<=G)(hG:G<=1000)(hk:1<=kind/\kind<=6)(ks:List Int)(loC hiC:Nat)(hc:Sl aeQ 1 w (TR [aF] loC hiC w) Ac ks)(hlo:m<loC)(hN:∀x∈ks,N9 x)(hks:ks.length<=1000):
  Calls Tryd.prog 64 #[.pointer (some ⟨m,0,none⟩),.int .i64 kind,.slice Ac ks.length cc] w (jD w m fs lp G kind):=by
 have:kind=1\/kind=2\/kind=3\/kind=4\/kind=5\/kind=6:=by omega
 rcases this with rfl|rfl|rfl|rfl|rfl|rfl
 ·exact Jq w m fs lp G Ag cg Ac ks.length cc h hf h1 hG
 ·exact LJ w m fs lp G Ag cg Ac ks.length cc h hf h1 hG
 ·exact QA w m fs lp G Ag cg Ac ks.length cc h hf h1 hG
 ·exact MZ w m fs lp G Ag cg Ac cc h hf h1 hG ks loC hiC hc hlo hN hks
 ·exact Gi w m fs lp G Ag cg Ac ks.length cc h hf h1 hG
 exact OO w m fs lp G Ag cg Ac ks.length cc h hf h1 hG
theorem VD (x:Nat)(h:x<10):∃v:Int,(#[Value.int .i64 1,.int .i64 2,.int .i64 3,.int .i64 4,.int .i64 4,.int .i64 5,.int .i64 6,.int .i64 7,.int .i64 8,.int .i64 1]:Array Value)[x]? =some (.int .i64 v)/\1<=v/\v<=8:=by
 have:x=0\/x=1\/x=2\/x=3\/x=4\/x=5\/x=6\/x=7\/x=8\/x=9:=by omega
 rcases this with rfl|rfl|rfl|rfl|rfl|rfl|rfl|rfl|rfl|rfl<;>exact⟨_,rfl,by decide,by decide⟩
def UM (w:World)(m:Nat)(fs:Nat->Value)(lp:Int)(G:Nat)(e:Ending)(w':World):Prop:=∃(ls:List Lookup) (A:Option Addr) (c:Nat),(∀l∈ls,af5 G l)/\ls.length<=6/\e= .returned (.tuple #[])/\Mk w' m (dw fs 3 (.slice A ls.length c)) lp/\Sl aeV 3 w' (TR (fD::En) w.heap.size w'.heap.size w') A ls/\Mv m w w'
theorem Qi {fs:Nat->Value}{j:Nat}{u:Value}(h:fs j=u):dw fs j u=fs:=by
 funext i
 unfold dw;split
 ·rename_i e;rw[e,h]
 rfl
theorem k64 {k:Int}(h:1<=k/\k<=8):I64 k:=⟨by omega,by omega⟩
def Y2:Op:=Op.load 58 (Operand.tmp 79)
attribute [go_sem] Y2
theorem L6 (w:World)(m:Nat)(fs:Nat->Value)(lp:Int)(G:Nat)(Ag:Option Addr)(cg:Nat)(h:Mk w m fs lp)(hf:fs 1= .slice Ag G cg)(h3:fs 3= .slice none 0 0)(h1:1<=G)(hG:G<=1000):Calls Tryd.prog 40 #[.pointer (some ⟨m,0,none⟩)] w (UM w m fs lp G):=by
 have hmw:=h.lt;have H:=hd0 h;have HF:=hd0 hf;have H3:=hd0 h3;clear h hf h3;go_enter Tryd.func40,Tryd.ntmps40
 go_wp2_with fail
 refine(ay w m fs lp 7 H.out (by omega) (by omega)).mono ?_;rintro e w1 ⟨n,hn,rfl,hk1,hv1⟩;have HI:Hid (L1 w m fs lp [] none 0 [] none 0 w1):=hd0 ⟨by rw[show([]:List (Int×Bool)).length=0 from rfl,Qi H3.out];exact hk1,World.ownsRow_nil _ _ _ _,World.ownsRow_nil _ _ _ _,hv1⟩;clear hk1 hv1 H;go_wp2_with fail
 go_loopw [3,4] (fun ca i wr=>∃(bs:List (Int×Bool)) (A:Option Addr) (c:Nat) (ks:List Int) (Ac:Option Addr) (cc:Nat),bs.length<=n/\i= .int .i64 bs.length/\ca= .slice Ac ks.length cc/\ks.length<=7/\Hid ((∀b∈bs,1<=b.1/\b.1<=8)/\(∀x∈ks,0<=x/\x<7)/\ks.length<=bs.length)/\Hid (L1 w m fs lp bs A c ks Ac cc wr)) (fun _ i _=>n - (intOf i).toNat)
 case atStart=>exact⟨[],none,0,[],none,0,nz _,rfl,rfl,by simp,hd0 (by simp),HI⟩
 case round=>
  obtain⟨wa,rfl⟩:∃x,x=wr:=⟨_,rfl⟩
  obtain⟨bs,A,c,ks,Ac,cc,hk,rfl,rfl,aau,hok,HL⟩:=hrel;by_cases hlt:bs.length<n
  ·go_wp2_with fail
   obtain⟨Wb,JA⟩:∃Wb,wa.alloc (.cells #[.int .i64 1,.int .i64 2,.int .i64 3,.int .i64 4,.int .i64 4,.int .i64 5,.int .i64 6,.int .i64 7,.int .i64 8,.int .i64 1] aF)=Wb:=⟨_,rfl⟩
   rw[JA];have TI:Hid (L1 w m fs lp bs A c ks Ac cc Wb):=by rw[<-JA];exact hd0 (HL.out.below ((agE _ _).alloc (ai _) _))
   have hkb:Bk Wb wa.heap.size aF #[.int .i64 1,.int .i64 2,.int .i64 3,.int .i64 4,.int .i64 4,.int .i64 5,.int .i64 6,.int .i64 7,.int .i64 8,.int .i64 1]:=by rw[<-JA];exact Bk.new _ _ _
   refine(ay Wb m (dw fs 3 (.slice A bs.length c)) lp 10 TI.out.mkr (by omega) (by omega)).mono ?_;rintro e w2 ⟨x,hx,rfl,hm2,hv2⟩;have hk2:=(Sp.next TI.out.mkr hv2).bk hkb (by decide);obtain⟨v,hv,acd⟩:=VD x hx;have qx:w2.cell? ⟨wa.heap.size,x,none⟩=some (.int .i64 v):=by rw[hk2.cell];exact hv
   have HL2:=hd0 (TI.out.next hm2 hv2);clear hm2 hv2 hkb hk2 JA TI HL hv;go_wp2_with fail
   have x5:w2.cell? ⟨m,5,none⟩=some (.slice A bs.length c):=HL2.out.mkr.at' 3 (by omega) (dH _ _ _);have bH:True:=trivial;have hmz:=HL2.out.mkr.lt;clear qx
   first|(go_region_with (go_at_call 36;have _t:=bH;refine(ay _ m (dw fs 3 (.slice A bs.length c)) lp 3 (by exact HL2.out.mkr) (by omega) (by omega)).mono ?_;rintro e w3 ⟨y,hy,rfl,aX,hv3⟩;have qI:=HL2.out.drew.next aX hv3;have PQ:w3.cell? ⟨m,5,none⟩=some (.slice A bs.length c):=qI.mkr.at' 3 (by omega) (dH _ _ _);have abz:=qI.mkr.lt;obtain⟨B,d,w9,hrun,x9,y9,z9,h9⟩:=qI.more hmw rfl (by omega) v ((y:Int)==0);have Ep:=hd0 h9;clear _t bH qI h9 aX hv3))|fail
   all_goals
    obtain⟨W,hW⟩:∃W,w9.setCell ⟨m,5,none⟩ (.slice B (bs.length+1) d)=W:=⟨_,rfl⟩
    rw[hW] at Ep ⊢;clear hW hrun x9 y9 z9 PQ x5;have hl2:(bs++[(v,((y:Int)==0))]).length=bs.length+1:=by simp
    have hok2:Hid (∀b∈bs++[(v,((y:Int)==0))],1<=b.1/\b.1<=8):=hd0 fun b hb=>by
     rw[agJ,agF] at hb;rcases hb with hb|rfl
     ·exact hok.out.1 b hb
     exact acd
    have BX:=hd0 hl2;clear hl2;by_cases h4:v<=4
    ·have hzW:=Ep.out.mv.size;have HO:=hd0 Ep.out.cal;go_wp2_with (at_builtin;refine wR ku rfl (.tmp 39) (.tmp 41) rfl W W.heap.size rfl w.heap.size ks.length cc Ac (aN ks) #[.int .i64 bs.length] rfl rfl rfl HO.out (by simp[Value.oneCell']) (by omega) hzW ?_;intro A5 c5 w5 h5 g5 l5;have rP:=hd0 h5;have rY:=hd0 g5;clear h5 g5 l5)
     have HL5:=hd0 (Ep.out.call hmw rP.out rY.out);have YT:Hid ((∀b∈bs++[(v,((y:Int)==0))],1<=b.1/\b.1<=8)/\(∀x∈ks++[(bs.length:Int)],0<=x/\x<7)/\(ks++[(bs.length:Int)]).length<=(bs++[(v,((y:Int)==0))]).length):=hd0 ⟨hok2.out,fun x hx=>by
      rw[agJ,agF] at hx;rcases hx with hx|rfl
      ·exact hok.out.2.1 x hx
      omega,by rw[BX.out,la];have:=hok.out.2.2;show ks.length+1<=bs.length+1;omega⟩
     go_roundw
     case rel=>exact⟨bs++[(v,((y:Int)==0))],B,d,ks++[(bs.length:Int)],A5,c5,by(have:=BX.out;omega),by simp,by simp,by(have:=YT.out.2.2;have:=BX.out;omega),YT,HL5⟩
     case measure=>simp[intOf];omega
    go_wp2_with fail
    go_roundw
    case rel=>exact⟨bs++[(v,((y:Int)==0))],B,d,ks,Ac,cc,by(have:=BX.out;omega),by simp,rfl,aau,hd0 ⟨hok2.out,hok.out.2.1,by have:=hok.out.2.2;have:=BX.out;omega⟩,Ep⟩
    case measure=>simp[intOf];omega
  obtain rfl:n=bs.length:=by omega
  have Yj:Hid ((∀x∈ks,N9 x)/\(∀x∈ks,I64 x)/\ks.length<=1000):=hd0 ⟨fun x hx=>by have:=hok.out.2.1 x hx;unfold N9;omega,fun x hx=>by have:=hok.out.2.1 x hx;unfold I64;omega,by omega⟩;have H2:Hid (L2 w m fs lp bs.length A c [] [] [] bs ks Ac cc wa.heap.size wa):=hd0 HL.out.two;have Y6:=hd0 hok.out.1;clear HL hok;generalize hbl:bs.length=n at*
  have HBN:=hd0 hbl;clear hbl;go_wp2_with fail
  go_loopw [6] (fun i wr=>∃(dc:List Value) (ls:List Lookup) (rest:List (Int×Bool)) (top:Nat),ls.length<=n/\i= .int .i64 ls.length/\Hid (ls.length+rest.length=n/\(∀l∈ls,af5 G l)/\∀b∈rest,1<=b.1/\b.1<=8)/\Hid (L2 w m fs lp n A c dc ls [] rest ks Ac cc top wr)) (fun i _=>n - (intOf i).toNat)
  case atStart=>exact⟨[],[],bs,wa.heap.size,nz _,rfl,hd0 ⟨(ahh _).trans HBN.out,by simp,Y6.out⟩,H2⟩
  case round=>
   obtain⟨wb,rfl⟩:∃x,x=wr:=⟨_,rfl⟩
   obtain⟨dc,ls,rest,top,hj,rfl,hq,HB⟩:=hrel;by_cases hlt2:ls.length<n
   ·obtain⟨kd,ig,r,rfl⟩:∃kd ig r,rest=(kd,ig)::r:=by
     cases rest with
     |nil=>exact absurd hq.out.1 (by simp;omega)
     |cons a r=>exact⟨a.1,a.2,r,rfl⟩
    have HH:=hd0 HB.out.head;have hkd:=hq.out.2.2 (kd,ig) (by simp);simp only at hkd;have hrl:ls.length+1+r.length=n:=by have:=hq.out.1;simp only[aV] at this;omega
    have HRL:=hd0 hrl;clear hrl;have x5:wb.cell? ⟨m,5,none⟩=some (.slice A n c):=HH.out.mkr.at' 3 (by omega) (dH _ _ _);obtain⟨g,rfl,hg,e0,-,-,-,-,hgw⟩:=HH.out.cells;clear HB;by_cases h7:7<=kd
    ·go_wp2_with fail
     have HS:=hd0 (HH.out.skip (k64 hkd));have hl2:(ls++[(⟨kd,ig,[]⟩:Lookup)]).length=ls.length+1:=by simp
     have hq2:Hid ((ls++[(⟨kd,ig,[]⟩:Lookup)]).length+r.length=n/\(∀l∈ls++[(⟨kd,ig,[]⟩:Lookup)],af5 G l)/\∀b∈r,1<=b.1/\b.1<=8):=hd0 ⟨by rw[hl2];exact HRL.out,fun l hl=>by
      rw[agJ,agF] at hl;rcases hl with hl|rfl
      ·exact hq.out.2.1 l hl
      exact⟨hkd,by simp,by simp⟩,fun b hb=>hq.out.2.2 b (List.mem_cons_of_mem _ hb)⟩
     have BX:=hd0 hl2;clear hl2;go_roundw
     case rel=>exact⟨_,_,r,top,by(have:=BX.out;omega),by simp,hq2,HS⟩
     case measure=>simp[intOf];omega
    go_wp2_with fail
    clear x5 e0;refine(ay wb m (dw fs 3 (.slice (some ⟨g,0,none⟩) n c)) lp 3 HH.out.mkr (by omega) (by omega)).mono ?_;rintro e wc ⟨x,hx,rfl,hmc,hvc⟩;have HC:=hd0 ((HH.out.next hmw hmc hvc).three);clear hmc hvc HH;go_wp2_with fail
    go_loopw [8] (fun i wr=>∃(rs:List ae4) (Ar:Option Addr) (cr:Nat) (rc:List Value) (hi:Nat),rs.length<=1+x/\i= .int .i64 rs.length/\Hid (∀r∈rs,afa G kd r)/\Hid (L3 w m fs lp n (some ⟨g,0,none⟩) c dc ls kd ig rs Ar cr rc r ks Ac cc wc.heap.size hi wr)) (fun i _=>1+x - (intOf i).toNat)
    case atStart=>exact⟨[],none,0,[],wc.heap.size,nz _,rfl,hd0 (by simp),HC⟩
    case round=>
     obtain⟨wd,rfl⟩:∃x,x=wr:=⟨_,rfl⟩
     obtain⟨rs,Ar,cr,rc,hi,hqx,rfl,hrs,HD⟩:=hrel;by_cases hlt3:rs.length<1+x
     ·have x5:wd.cell? ⟨m,5,none⟩=some (.slice (some ⟨g,0,none⟩) n c):=HD.out.two.mkr.at' 3 (by omega) (dH _ _ _);obtain⟨e0,e2,hgd⟩:=HD.out.two.at';have hzd:=HD.out.hi';have hmd:=HD.out.two.mkr.lt;have bH:True:=trivial;go_wp2_with fail
      have x5d:wd.drew.cell? ⟨m,5,none⟩=some (.slice (some ⟨g,0,none⟩) n c):=x5;have e0d:wd.drew.cell? ⟨g,ls.length*3,none⟩=some (.int .i64 kd):=e0;have e2d:wd.drew.cell? ⟨g,ls.length*3+2,none⟩=some (.slice Ar rs.length cr):=e2;rw[show Op.load 58 (Operand.tmp 79)=Y2 from rfl]
      go_region_held3 (fun w'=>w'.cell? ⟨m,5,none⟩=some (.slice (some ⟨g,0,none⟩) n c)/\w'.cell? ⟨g,ls.length*3,none⟩=some (.int .i64 kd))
       (first
        |with_reducible exact⟨x5d,e0d⟩
        |with_reducible exact⟨PQ,WQ⟩
        |with_reducible exact⟨VM _ PQ,VM _ WQ⟩
        |with_reducible exact⟨x9,y90⟩
        |with_reducible exact⟨x9s,e9s⟩
        |go_keep)
       (first
        |(go_at_call 64;have _t:=bH;refine(Rn _ m (dw fs 3 (.slice (some ⟨g,0,none⟩) n c)) lp G Ag cg kd Ac cc (by exact HD.out.two.mkr) (by exact(aI (by decide)).trans HF.out) h1 hG ⟨hkd.1,by omega⟩ ks _ _ (by exact HD.out.two.calls Yj.out.2.1) hmw Yj.out.1 Yj.out.2.2).mono ?_;rintro e w3 ⟨r1,B0,B1,B2,B3,B4,d0,d1,d2,d3,d4,hr1,rfl,hx1,s0,s1,s2,s3,s4,aX,hv3⟩;have qI:=HD.out.drew.next hmw aX hv3;have abz:=qI.two.mkr.lt;have PQ:w3.cell? ⟨m,5,none⟩=some (.slice (some ⟨g,0,none⟩) n c):=qI.two.mkr.at' 3 (by omega) (dH _ _ _);obtain⟨WQ,e23,aen⟩:=qI.two.at';obtain⟨B,d,w9,rc',hrun,x9,y90,y9,f9,z9,h9⟩:=qI.more hmw rfl (by omega) rfl (lo:=wd.heap.size) (by omega) r1 (d0:=d0) (d1:=d1) (d2:=d2) (d3:=d3) (d4:=d4) hx1 (by exact s0) (by exact s1) (by exact s2) (by exact s3) (by exact s4);have x9s:(w9.setCell ⟨g,ls.length*3+2,none⟩ (.slice B (rs.length+1) d)).cell? ⟨m,5,none⟩=some (.slice (some ⟨g,0,none⟩) n c):=h9.two.mkr.at' 3 (by omega) (dH _ _ _);have e9s:=h9.two.at'.1;have Ep:=hd0 h9;have HR1:=hd0 hr1;clear _t bH qI h9 aX hv3 s0 s1 s2 s3 s4 hr1))
      all_goals
       obtain⟨W,hW⟩:∃W,w9.setCell ⟨g,ls.length*3+2,none⟩ (.slice B (rs.length+1) d)=W:=⟨_,rfl⟩
       rw[hW] at Ep ⊢;clear x9s e9s hW hrun x9 y90 y9 f9 z9 PQ WQ e23 x5 e0 e2 x5d e0d e2d;have aaD:Hid (∀r∈rs++[r1],afa G kd r):=hd0 fun r hr=>by
        rw[agJ,agF] at hr;rcases hr with hr|rfl
        ·exact hrs.out r hr
        exact HR1.out
       go_wp2_with fail
       go_roundw
       case rel=>exact⟨rs++[r1],B,d,_,_,by(rw[la];show rs.length+1<=1+x;omega),by simp,aaD,Ep⟩
       case measure=>simp[intOf];omega
     have HS:=hd0 (HD.out.fin (k64 hkd));have hl2:(ls++[(⟨kd,ig,rs⟩:Lookup)]).length=ls.length+1:=by simp
     have hq2:Hid ((ls++[(⟨kd,ig,rs⟩:Lookup)]).length+r.length=n/\(∀l∈ls++[(⟨kd,ig,rs⟩:Lookup)],af5 G l)/\∀b∈r,1<=b.1/\b.1<=8):=hd0 ⟨by rw[hl2];exact HRL.out,fun l hl=>by
      rw[agJ,agF] at hl;rcases hl with hl|rfl
      ·exact hq.out.2.1 l hl
      exact⟨hkd,hrs.out,show rs.length<=3 by omega⟩,fun b hb=>hq.out.2.2 b (List.mem_cons_of_mem _ hb)⟩
     have BX:=hd0 hl2;clear hl2;go_wp2_with fail
     go_roundw
     case rel=>exact⟨_,_,r,_,by(have:=BX.out;omega),by simp,hq2,HS⟩
     case measure=>simp[intOf];omega
   obtain rfl:rest=[]:=by have:=hq.out.1;exact List.eq_nil_of_length_eq_zero (by omega)
   obtain⟨hl,hs⟩:=HB.out.fin;have HM:Hid (Mk wb m (dw fs 3 (.slice A ls.length c)) lp):=hd0 (by rw[hl];exact HB.out.mkr);have HV:=hd0 HB.out.mv;have HSl:=hd0 hs;clear hs HB hl;go_wp2_with fail
   go_end0
   exact⟨ls,A,c,hq.out.2.1,by omega,rfl,HM.out,HSl.out,HV.out⟩
end Go.Proofs.YtkijckccfookeaaDoor
