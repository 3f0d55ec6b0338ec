/- Lemmas. -/
import Derived.Test.YtkijckccfookeaaDoorMkQ
set_option linter.unusedVariables false
set_option linter.unusedSimpArgs false
set_option maxRecDepth 100000
set_option maxHeartbeats 32000000
namespace Go.Proofs.YtkijckccfookeaaDoor
open Go.RowKit
attribute [-go_sem] Builtin.append_
def FI (c:Call):List Value:=[.int .i64 c.at',.int .i64 c.lookup]
def nK (l:List Call):List Value:=l.flatMap FI
theorem GL (w:World)(S:Bs)(p:List Call)(h:∀i∈p,I64 i.at'/\I64 i.lookup):Fl aff 2 w S (nK p) p:=oW w S FI p (fun _ _=>rfl) (fun x hx=>⟨rfl,h x hx⟩)
theorem Sl.agl {w:World}{S:Bs}{b o:Nat}{xs:List Int}(h:Sl aeQ 1 w S (some ⟨b,o,none⟩) xs){k:Nat}(hk:k<xs.length):∃x,w.cell? ⟨b,o+k,none⟩=some (.int .i64 x)/\xs[k]? =some x:=by obtain⟨b',o',x,e,-,hx,hc,-⟩:=h.int hk;simp only[ag3,Addr.mk.injEq,and_true] at e;obtain⟨rfl,rfl⟩:=e;exact⟨x,hc,hx.out⟩
theorem MZ (w:World)(m:Nat)(fs:Nat->Value)(lp:Int)(G:Nat)(Ag:Option Addr)(cg:Nat)(Ac:Option Addr)(cc:Nat)(h:Mk w m fs lp)(hf:fs 1= .slice Ag G cg)(h1:1<=G)(hG:G<=1000)(ks:List Int)(loC hiC:Nat)(hc:Sl aeQ 1 w (TR [aF] loC hiC w) Ac ks)(hlo:m<loC)(hN:∀x∈ks,N9 x)(hks:ks.length<=1000):Calls Tryd.prog 64 #[.pointer (some ⟨m,0,none⟩),.int .i64 4,.slice Ac ks.length cc] w (jD w m fs lp G 4):=by
 have HC:=hd0 hc;have HN:=hd0 hN;clear hc hN;have hmw:=h.lt;have qg:w.cell? ⟨m,3,none⟩=some (.slice Ag G cg):=by have:=h.cells.1 1 (by omega);rw[hf] at this;exact this
 have H:=hd0 h;have HF:=hd0 hf;clear h hf;go_enter Tryd.func64,Tryd.ntmps64
 go_wp2_with fail
 obtain⟨W0,hW0⟩:∃W0,(w.alloc (.cells dR bJ)).alloc (.cells dR bJ)=W0:=⟨_,rfl⟩
 have HR:Hid (RS w m fs lp dR W0):=by rw[<-hW0];exact hd0 (RS.begin H.out)
 have z0:W0.heap.size=w.heap.size+2:=by rw[<-hW0];simp
 unfold dR at hW0;rw[hW0];clear hW0 qg;refine(mX W0 m fs lp G Ag cg HR.out.mkr HF.out h1 hG).mono ?_;rintro e w1 ⟨s,As,cs,hs,hs1,rfl,hsl,hm1,hv1⟩;have HR1:=hd0 (HR.out.next hm1 hv1);have qo:=hd0 (Frz.of aeQ.ok hsl);have HS:=hd0 hs;have z1:=hv1.size;have x1:w1.cell? ⟨w.heap.size+1,1,none⟩=some (.slice none 0 0):=HR1.out.cell 1;have y1:=HR1.out.var.frozen 1;have zr:=HR1.out.var.lt;clear hsl hm1 hv1 HR hs;go_wp2_with fail
 obtain⟨W2,hW2⟩:∃W2,(w1.setCell ⟨w.heap.size+1,1,none⟩ (.slice (some ⟨w1.heap.size,0,none⟩) 1 1)).alloc (.cells #[.slice As s.length cs] tRow)=W2:=⟨_,rfl⟩
 rw[hW2];obtain⟨hR2,hF2,hO2,z2⟩:=HR1.out.in0 hmw qo.out (by omega) (by omega) hW2;have HR2:=hd0 hR2;have F2:=hd0 hF2;have O2:=hd0 hO2;clear hR2 hF2 hO2 hW2 x1 y1 HR1 qo;go_wp2_with fail
 refine(ay W2 m fs lp 2 HR2.out.mkr (by omega) (by omega)).mono ?_;rintro e w3 ⟨y,hy,rfl,aX,hv3⟩;have oI:=HR2.out.next aX hv3;have hF3:=Frz.next aeQ.ok F2.out (by omega) hv3;have hO3:=(Sp.next HR2.out.mkr hv3).own O2.out (by decide);have z3:=hv3.size;have HR3:=hd0 oI;have F3:=hd0 hF3;have O3:=hd0 hO3;clear oI hF3 hO3 aX hv3 HR2 F2 O2;by_cases y0:y=0
 ·have e0:((y:Int)==0)=true:=by simp;omega
  clear y0;go_wp2_with fail
  refine(fH w3 m fs lp G Ag cg HR3.out.mkr HF.out h1 hG).mono ?_;rintro e w4 ⟨back,Ab,cb,hB,rfl,hbl,hm4,hv4⟩;have HR4:=hd0 (HR3.out.next hm4 hv4);have F4:=hd0 (Frz.next aeQ.ok F3.out (by omega) hv4);have O4:=hd0 ((Sp.next HR3.out.mkr hv4).own O3.out (by decide));have sO:=hd0 (Frz.of aeR.ok hbl);have z4:=hv4.size;have x4:w4.cell? ⟨w.heap.size+1,0,none⟩=some (.slice none 0 0):=HR4.out.cell 0;have y4:=HR4.out.var.frozen 0;clear hbl hm4 hv4 HR3 F3 O3;go_wp2_with fail
  obtain⟨W5,lV⟩:∃W5,w4.setCell ⟨w.heap.size+1,0,none⟩ (.slice Ab back.length cb)=W5:=⟨_,rfl⟩
  have nR:=HR4.out.put hmw 0 (.slice Ab back.length cb);have kG:=Frz.put aeQ.ok F4.out (g:=w.heap.size+1) (.inl (by omega)) 0 (.slice Ab back.length cb);have og:=Frz.put aeR.ok sO.out (g:=w.heap.size+1) (.inl (by omega)) 0 (.slice Ab back.length cb);have nT:=(Sp.set (m:=m) HR4.out.var (by omega) 0 (.slice Ab back.length cb)).own O4.out (by decide);have z5:W5.heap.size=w4.heap.size:=by rw[<-lV];simp
  rw[lV] at nR kG og nT ⊢;have kJ:=hd0 nR;have F5:=hd0 kG;have rW:=hd0 og;have O5:=hd0 nT;clear nR kG og nT lV HR4 F4 O4 sO x4 y4;refine(fH W5 m fs lp G Ag cg kJ.out.mkr HF.out h1 hG).mono ?_;rintro e w6 ⟨ahead,Aa,ca,hA,rfl,hal,rf,hv6⟩;have iR:=hd0 (kJ.out.next rf hv6);have F6:=hd0 (Frz.next aeQ.ok F5.out (by omega) hv6);have sV:=hd0 (Frz.next aeR.ok rW.out (by omega) hv6);have O6:=hd0 ((Sp.next kJ.out.mkr hv6).own O5.out (by decide));have rZ:=hd0 (Frz.of aeR.ok hal);have z6:=hv6.size;have x6:w6.cell? ⟨w.heap.size+1,2,none⟩=some (.slice none 0 0):=iR.out.cell 2;have y6:=iR.out.var.frozen 2;clear hal rf hv6 kJ F5 O5 rW;go_wp2_with fail
  obtain⟨Wx,ed⟩:∃Wx,w6.setCell ⟨w.heap.size+1,2,none⟩ (.slice Aa ahead.length ca)=Wx:=⟨_,rfl⟩
  have nJ:=iR.out.put hmw 2 (.slice Aa ahead.length ca);have kV:=Frz.put aeQ.ok F6.out (g:=w.heap.size+1) (.inl (by omega)) 2 (.slice Aa ahead.length ca);have oq:=Frz.put aeR.ok sV.out (g:=w.heap.size+1) (.inl (by omega)) 2 (.slice Aa ahead.length ca);have nO:=Frz.put aeR.ok rZ.out (g:=w.heap.size+1) (.inl (by omega)) 2 (.slice Aa ahead.length ca);have nV:=(Sp.set (m:=m) iR.out.var (by omega) 2 (.slice Aa ahead.length ca)).own O6.out (by decide);have z7:Wx.heap.size=w6.heap.size:=by rw[<-ed];simp
  rw[ed] at nJ kV oq nO nV ⊢;have hpk:∃(back:List (List Int)) (Ab:Option Addr) (cb:Nat) (ahead:List (List Int)) (Aa:Option Addr) (ca:Nat) (aY hib aZ hia:Nat),RB w m fs lp Wx.heap.size W0.heap.size w1.heap.size As s (.slice (some ⟨w1.heap.size,0,none⟩) 1 1) 1 [.slice As s.length cs] aY hib Ab cb back aZ hia Aa ca ahead (.slice none 0 0) (.slice none 0 0) Wx/\aeZ G 2 back/\aeZ G 2 ahead/\(w1.heap.size<aY\/hib<=w1.heap.size)/\(w1.heap.size<aZ\/hia<=w1.heap.size):=⟨back,Ab,cb,ahead,Aa,ca,w3.heap.size,w4.heap.size,W5.heap.size,w6.heap.size,⟨nJ,kV,nV,oq,nO,by omega,by omega,by omega,by omega,by omega,by omega,by omega,ai _⟩,hB,hA,.inl (by omega),.inl (by omega)⟩
  have hzx:w1.heap.size+1<=Wx.heap.size:=by omega
  clear nJ kV oq nO nV ed iR F6 sV O6 rZ x6 y6 hB hA z3 z4 z5 z6 z7;obtain⟨back,Ab,cb,ahead,Aa,ca,aY,hib,aZ,hia,hrb,hB,hA,hbb,hba⟩:=hpk;have HX:=hd0 hrb;have gV:=hd0 hB;have nH:=hd0 hA;clear hrb hB hA;have x1:Wx.cell? ⟨w.heap.size+1,1,none⟩=some (.slice (some ⟨w1.heap.size,0,none⟩) 1 1):=HX.out.rs.cell 1;have gZ:w.heap.size+1≠m:=by omega
  have bH:True:=trivial
  first|(go_region_with (go_at_call 89;have _t:=bH;refine(fH _ m fs lp G Ag cg (by exact HX.out.rs.mkr) HF.out h1 hG).mono ?_;rintro e wq ⟨q,Aq,cq,hq,rfl,uC,xu,hvq⟩;have Gu:=dh hvq gZ x1;have rO:=HX.out.drew.next hmw xu hvq;have zq:=hvq.size;have Y9:Wx.heap.size<=wq.heap.size:=zq;have XV:=rO.rs.var.lt;obtain⟨A5,c5,w9,cells,hrun,x9,y9,h9⟩:=rO.app (cq:=cq) hmw ⟨ai _,hbb,hba⟩ (Frz.of aeR.ok uC) (show w1.heap.size<Wx.heap.size by omega) (ai _) (show w.heap.size+2<=Wx.heap.size by omega) (by have:=hq.few;omega);have kD:=hd0 h9;have HQ:=hd0 hq;clear _t bH rO h9 xu hvq uC hq))|fail
  all_goals
   obtain⟨Wy,wZ⟩:∃Wy,w9.setCell ⟨w.heap.size+1,1,none⟩ (.slice A5 (1+q.length) c5)=Wy:=⟨_,rfl⟩
   rw[wZ] at kD ⊢;clear wZ hrun x9 y9 Gu x1;have hpq:∃jf jq,Hid (RQ w m fs lp w9.heap.size W0.heap.size w1.heap.size As s (.slice A5 (1+q.length) c5) (1+q.length) ([.slice As s.length cs]++cells) aY hib Ab cb back aZ hia Aa ca ahead (.slice none 0 0) (.slice none 0 0) jf jq cells q Wy):=⟨_,_,kD⟩
   clear kD;obtain⟨jf,jq,kD⟩:=hpq;have XE:=kD.out.rb.bnd.2.2.2.2.2.2.2;go_wp2_with fail
   refine(ay Wy m fs lp 3 kD.out.rb.rs.mkr (by omega) (by omega)).mono ?_;rintro e Wl ⟨kk,hkk,rfl,hml,hvl⟩;have Gw:=hvl.size;have HX:=hd0 ((kD.out.next hmw hml hvl).afK (nt XE Gw) (ai _));have hq2:=HQ.out.few;clear hml hvl kD;go_wp2_with fail
   go_loopw [13] (fun i wr=>∃(k:Nat) (cl:List Call) (A:Option Addr) (c:Nat),k<=kk/\i= .int .i64 k/\cl.length=k/\wr.ownsRow Wl.heap.size pI 2 (.slice A k c) k (nK cl)/\Hid (∀c∈cl,In (1+q.length) c.at'/\c.lookup∈ks)/\Hid (RQ w m fs lp Wl.heap.size W0.heap.size w1.heap.size As s (.slice A5 (1+q.length) c5) (1+q.length) ([.slice As s.length cs]++cells) aY hib Ab cb back aZ hia Aa ca ahead (.slice none 0 0) (.slice A k c) jf jq cells q wr)) (fun i _=>kk - (intOf i).toNat)
   case atStart=>exact⟨0,[],none,0,nz _,rfl,rfl,World.ownsRow_nil _ _ _ _,hd0 (by simp),HX⟩
   case round=>
    obtain⟨wl,rfl⟩:∃x,x=wr:=⟨_,rfl⟩
    obtain⟨k,cl,A,c,hk,rfl,hok,ho,hin,HL⟩:=hrel;have HO:=hd0 ho;have Qk:=hd0 hok;have zwl:=HL.out.rb.bnd.2.2.2.2.2.2.2;clear ho hok;by_cases hgo:k<kk/\0<ks.length
    ·obtain⟨hlt,hpos⟩:=hgo;obtain⟨bc,oc,rfl⟩:∃bc oc,Ac=some ⟨bc,oc,none⟩:=by obtain⟨b,o,-,e,-⟩:=HC.out.int hpos;exact⟨b,o,e⟩
     have x4:wl.cell? ⟨w.heap.size+1,4,none⟩=some (.slice A k c):=HL.out.rb.rs.cell 4;have x1:wl.cell? ⟨w.heap.size+1,1,none⟩=some (.slice A5 (1+q.length) c5):=HL.out.rb.rs.cell 1;have gZ:w.heap.size+1≠m:=by omega
     go_wp2_with fail
     have bH:True:=trivial;have dY:True:=trivial
     first|(go_region_with (first
      |(go_at_call 36;have _t:=bH;refine(ay _ m fs lp (1+q.length) (by exact HL.out.rb.rs.mkr) (by omega) (by omega)).mono ?_;rintro e w3 ⟨x,hx,rfl,aX,hv3⟩;have x43:=dh hv3 gZ x4;have Wu:=dh hv3 gZ x1;clear _t bH)
      |(go_at_call 36;have _t:=dY;refine(ay _ m fs lp ks.length (by exact aX) (by omega) (by omega)).mono ?_;rintro e w4 ⟨y,hy,rfl,hm4,hv4⟩;have Wp:=dh hv4 gZ x43;have HR4:=(HL.out.drew.next hmw aX hv3).next hmw hm4 hv4;have zr4:=HR4.rb.rs.var.lt;have WF:=HR4.rb.bnd.2.2.2.2.2.2.2;obtain⟨vv,hcv,hvv⟩:=(Frz.row aeQ.ok HC.out HR4.rb.rs.mv (fun x hx=>by injection hx with hx;exact .inl (by omega))).agl hy;have HVV:=hd0 hvv;have o4:=(Sp.next aX hv4).own ((Sp.next HL.out.drew.rb.rs.mkr hv3).own (show wl.drew.ownsRow Wl.heap.size pI 2 (.slice A k c) k (nK cl) from HO.out) (by decide)) (by decide);obtain⟨A6,c6,w8,hrun,x9,y9,dG,h9⟩:=HR4.more hmw OT (by decide) (by decide) (by decide) (j:=4) (ai _) WF rfl o4 #[.int .i64 x,.int .i64 vv] rfl (by simp[Value.oneCell']) (by omega);have jX:=hd0 dG;have ik:=hd0 h9;clear _t dY HR4 o4 dG h9 aX hv3 hm4 hv4 hvv)))|fail
     all_goals
      have mi:=hd0 (ik.out.aga hmw (.slice A6 (k+1) c6));have hoa:(w8.setCell ⟨w.heap.size+1,4,none⟩ (.slice A6 (k+1) c6)).ownsRow Wl.heap.size pI 2 (.slice A6 (k+1) c6) (k+1) (nK (cl++[⟨(x:Int),vv⟩])):=by have:=(Sp.set (m:=m) ik.out.rb.rs.var (by omega) 4 (.slice A6 (k+1) c6)).own jX.out (by decide);simpa [nK,FI] using this
      have hin2:Hid (∀c∈cl++[(⟨(x:Int),vv⟩:Call)],In (1+q.length) c.at'/\c.lookup∈ks):=hd0 (fun n hn=>by
       rw[agJ,agF] at hn;rcases hn with hn|rfl
       ·exact hin.out n hn
       exact⟨⟨show(0:Int)<=(x:Int) by omega,show(x:Int)<((1+q.length:Nat):Int) by omega⟩,agM HVV.out⟩)
      have hl2:(cl++[(⟨(x:Int),vv⟩:Call)]).length=k+1:=by rw[la,Qk.out];rfl
      have oK:=hd0 hoa;have HL2:=hd0 hl2;clear hoa hl2 hrun x9 y9 ik jX x43 Wp Wu;go_wp2_with fail
      go_roundw
      case rel=>exact⟨k+1,cl++[⟨(x:Int),vv⟩],A6,c6,by omega,by simp,HL2.out,oK.out,hin2,mi⟩
      case measure=>simp[intOf];omega
    have v0:wl.cell? ⟨w.heap.size+1,0,none⟩=some (.slice Ab back.length cb):=HL.out.rb.rs.cell 0;have v1:wl.cell? ⟨w.heap.size+1,1,none⟩=some (.slice A5 (1+q.length) c5):=HL.out.rb.rs.cell 1;have v2:wl.cell? ⟨w.heap.size+1,2,none⟩=some (.slice Aa ahead.length ca):=HL.out.rb.rs.cell 2;have v3:wl.cell? ⟨w.heap.size+1,3,none⟩=some (.slice none 0 0):=HL.out.rb.rs.cell 3;have v4:wl.cell? ⟨w.heap.size+1,4,none⟩=some (.slice A k c):=HL.out.rb.rs.cell 4;have v5:wl.cell? ⟨w.heap.size+1,5,none⟩=some (.int .i64 0):=HL.out.rb.rs.cell 5;have r0:wl.cell? ⟨w.heap.size,0,none⟩=some (.slice none 0 0):=HL.out.rb.rs.res.cell 0;have r1:wl.cell? ⟨w.heap.size,1,none⟩=some (.slice none 0 0):=HL.out.rb.rs.res.cell 1;have r2:wl.cell? ⟨w.heap.size,2,none⟩=some (.slice none 0 0):=HL.out.rb.rs.res.cell 2;have r3:wl.cell? ⟨w.heap.size,3,none⟩=some (.slice none 0 0):=HL.out.rb.rs.res.cell 3;have r4:wl.cell? ⟨w.heap.size,4,none⟩=some (.slice none 0 0):=HL.out.rb.rs.res.cell 4;have r5:wl.cell? ⟨w.heap.size,5,none⟩=some (.int .i64 0):=HL.out.rb.rs.res.cell 5;have f0:=HL.out.rb.rs.res.frozen 0;have f1:=HL.out.rb.rs.res.frozen 1;have f2:=HL.out.rb.rs.res.frozen 2;have f3:=HL.out.rb.rs.res.frozen 3;have f4:=HL.out.rb.rs.res.frozen 4;have f5:=HL.out.rb.rs.res.frozen 5;obtain⟨b0,b1,b2,b3,b4,b5,b6,b7⟩:=HL.out.rb.bnd;have bq:=HL.out.bq;have hcl:=Qk.out;have hlq:([s]++q).length=1+q.length:=by simp;omega
    have key:jD w m fs lp G 4 (.returned (.agg #[.slice Ab back.length cb,.slice A5 (1+q.length) c5,.slice Aa ahead.length ca,.slice none 0 0,.slice A k c,.int .i64 0])) (AQ wl w.heap.size (.slice Ab back.length cb) (.slice A5 (1+q.length) c5) (.slice Aa ahead.length ca) (.slice none 0 0) (.slice A k c) (.int .i64 0))/\Bk (AQ wl w.heap.size (.slice Ab back.length cb) (.slice A5 (1+q.length) c5) (.slice Aa ahead.length ca) (.slice none 0 0) (.slice A k c) (.int .i64 0)) w.heap.size bJ #[.slice Ab back.length cb,.slice A5 (1+q.length) c5,.slice Aa ahead.length ca,.slice none 0 0,.slice A k c,.int .i64 0]:=by have hr:afa G 4 ⟨back,[s]++q,ahead,[],cl,0⟩:=afa.mk' (gV.out.mono (by omega)) ((aeZ.one HS.out).app HQ.out) (nH.out.mono (by omega)) (by simp) ⟨fun c hc=>⟨by have:=(hin.out c hc).1;unfold In at this;unfold N9;omega,HN.out _ (hin.out c hc).2⟩,show cl.length<=2 by omega⟩ (show N9 0 from by unfold N9;omega) (fun h=>absurd h (by decide)) (fun _=>rfl) (fun h=>absurd rfl h) (fun _=>rfl);have hfl:Fl aeR 1 wl (TS gX w.heap.size wl) ([.slice As s.length cs]++cells) ([s]++q):=(Fl.one (R:=aeR) ⟨As,cs,rfl,Frz.typed aeQ.ok HL.out.rb.set (by decide) (by omega)⟩ rfl).append (HL.out.fq.mono aeR.ok (TR.ts (by decide) (by omega)));have hrs:=HL.out.rb.rs;have Ii:=HL.out.rb.inn;have hot:=HO.out;rw[<-hlq] at hrs Ii;rw[<-hcl] at hrs hot;have hfin:=iY (G:=G) (kind:=4) (r:=⟨back,[s]++q,ahead,[],cl,0⟩) (A0:=Ab) (A1:=A5) (A2:=Aa) (A3:=none) (A4:=A) (c0:=cb) (c1:=c5) (c2:=ca) (c3:=0) (c4:=c) hrs hmw hr (show I64 0 from by unfold I64;omega) (Frz.typed aeR.ok HL.out.rb.fb (by decide) (by omega)) (cZ Ii hfl (by decide) (by omega) (by omega)) (Frz.typed aeR.ok HL.out.rb.fa (by decide) (by omega)) Sl.nil (cZ hot (GL _ _ cl (fun c hc=>⟨by have:=(hin.out c hc).1;unfold In at this;unfold I64;omega,by have:=HN.out _ (hin.out c hc).2;unfold N9 at this;unfold I64;omega⟩)) (by decide) (by omega) (by omega));simp only[hlq,hcl] at hfin;exact⟨hfin.2,hfin.1⟩
    have Bh:=hd0 key;clear key hcl hlq bq b0 b1 b2 b3 b4 b5 b6 b7;rcases Nat.lt_or_ge k kk with hlt|hge
    ·have hn0:ks.length=0:=by omega
     rw[hn0];go_wp2_with fail
     exact bodyPost_ret (dE Bh.out.2 rfl rfl) rfl Bh.out.1
    go_wp2_with fail
    exact bodyPost_ret (dE Bh.out.2 rfl rfl) rfl Bh.out.1
 have e0:((y:Int)==0)=false:=by simp;omega
 clear y0;go_wp2_with fail
 obtain⟨Wx,ed⟩:∃Wx,w3=Wx:=⟨_,rfl⟩
 subst ed;have hpk:∃(back:List (List Int)) (Ab:Option Addr) (cb:Nat) (ahead:List (List Int)) (Aa:Option Addr) (ca:Nat) (aY hib aZ hia:Nat),RB w m fs lp w3.heap.size W0.heap.size w1.heap.size As s (.slice (some ⟨w1.heap.size,0,none⟩) 1 1) 1 [.slice As s.length cs] aY hib Ab cb back aZ hia Aa ca ahead (.slice none 0 0) (.slice none 0 0) w3/\aeZ G 2 back/\aeZ G 2 ahead/\(w1.heap.size<aY\/hib<=w1.heap.size)/\(w1.heap.size<aZ\/hia<=w1.heap.size):=⟨[],none,0,[],none,0,W0.heap.size,0,W0.heap.size,0,⟨HR3.out,F3.out,O3.out,Sl.nil,Sl.nil,by omega,by omega,by omega,by omega,by omega,by omega,by omega,ai _⟩,.nil _ _,.nil _ _,.inr (nz _),.inr (nz _)⟩
 have hzx:w1.heap.size+1<=w3.heap.size:=by omega
 obtain⟨Wx,ed⟩:∃Wx,w3=Wx:=⟨_,rfl⟩
 rw[ed] at hpk hzx ⊢;clear HR3 F3 O3 z3 ed;obtain⟨back,Ab,cb,ahead,Aa,ca,aY,hib,aZ,hia,hrb,hB,hA,hbb,hba⟩:=hpk;have HX:=hd0 hrb;have gV:=hd0 hB;have nH:=hd0 hA;clear hrb hB hA;have x1:Wx.cell? ⟨w.heap.size+1,1,none⟩=some (.slice (some ⟨w1.heap.size,0,none⟩) 1 1):=HX.out.rs.cell 1;have gZ:w.heap.size+1≠m:=by omega
 have bH:True:=trivial
 first|(go_region_with (go_at_call 89;have _t:=bH;refine(fH _ m fs lp G Ag cg (by exact HX.out.rs.mkr) HF.out h1 hG).mono ?_;rintro e wq ⟨q,Aq,cq,hq,rfl,uC,xu,hvq⟩;have Gu:=dh hvq gZ x1;have rO:=HX.out.drew.next hmw xu hvq;have zq:=hvq.size;have Y9:Wx.heap.size<=wq.heap.size:=zq;have XV:=rO.rs.var.lt;obtain⟨A5,c5,w9,cells,hrun,x9,y9,h9⟩:=rO.app (cq:=cq) hmw ⟨ai _,hbb,hba⟩ (Frz.of aeR.ok uC) (show w1.heap.size<Wx.heap.size by omega) (ai _) (show w.heap.size+2<=Wx.heap.size by omega) (by have:=hq.few;omega);have kD:=hd0 h9;have HQ:=hd0 hq;clear _t bH rO h9 xu hvq uC hq))|fail
 all_goals
  obtain⟨Wy,wZ⟩:∃Wy,w9.setCell ⟨w.heap.size+1,1,none⟩ (.slice A5 (1+q.length) c5)=Wy:=⟨_,rfl⟩
  rw[wZ] at kD ⊢;clear wZ hrun x9 y9 Gu x1;have hpq:∃jf jq,Hid (RQ w m fs lp w9.heap.size W0.heap.size w1.heap.size As s (.slice A5 (1+q.length) c5) (1+q.length) ([.slice As s.length cs]++cells) aY hib Ab cb back aZ hia Aa ca ahead (.slice none 0 0) (.slice none 0 0) jf jq cells q Wy):=⟨_,_,kD⟩
  clear kD;obtain⟨jf,jq,kD⟩:=hpq;have XE:=kD.out.rb.bnd.2.2.2.2.2.2.2;go_wp2_with fail
  refine(ay Wy m fs lp 3 kD.out.rb.rs.mkr (by omega) (by omega)).mono ?_;rintro e Wl ⟨kk,hkk,rfl,hml,hvl⟩;have Gw:=hvl.size;have HX:=hd0 ((kD.out.next hmw hml hvl).afK (nt XE Gw) (ai _));have hq2:=HQ.out.few;clear hml hvl kD;go_wp2_with fail
  go_loopw [13] (fun i wr=>∃(k:Nat) (cl:List Call) (A:Option Addr) (c:Nat),k<=kk/\i= .int .i64 k/\cl.length=k/\wr.ownsRow Wl.heap.size pI 2 (.slice A k c) k (nK cl)/\Hid (∀c∈cl,In (1+q.length) c.at'/\c.lookup∈ks)/\Hid (RQ w m fs lp Wl.heap.size W0.heap.size w1.heap.size As s (.slice A5 (1+q.length) c5) (1+q.length) ([.slice As s.length cs]++cells) aY hib Ab cb back aZ hia Aa ca ahead (.slice none 0 0) (.slice A k c) jf jq cells q wr)) (fun i _=>kk - (intOf i).toNat)
  case atStart=>exact⟨0,[],none,0,nz _,rfl,rfl,World.ownsRow_nil _ _ _ _,hd0 (by simp),HX⟩
  case round=>
   obtain⟨wl,rfl⟩:∃x,x=wr:=⟨_,rfl⟩
   obtain⟨k,cl,A,c,hk,rfl,hok,ho,hin,HL⟩:=hrel;have HO:=hd0 ho;have Qk:=hd0 hok;have zwl:=HL.out.rb.bnd.2.2.2.2.2.2.2;clear ho hok;by_cases hgo:k<kk/\0<ks.length
   ·obtain⟨hlt,hpos⟩:=hgo;obtain⟨bc,oc,rfl⟩:∃bc oc,Ac=some ⟨bc,oc,none⟩:=by obtain⟨b,o,-,e,-⟩:=HC.out.int hpos;exact⟨b,o,e⟩
    have x4:wl.cell? ⟨w.heap.size+1,4,none⟩=some (.slice A k c):=HL.out.rb.rs.cell 4;have x1:wl.cell? ⟨w.heap.size+1,1,none⟩=some (.slice A5 (1+q.length) c5):=HL.out.rb.rs.cell 1;have gZ:w.heap.size+1≠m:=by omega
    go_wp2_with fail
    have bH:True:=trivial;have dY:True:=trivial
    first|(go_region_with (first
     |(go_at_call 36;have _t:=bH;refine(ay _ m fs lp (1+q.length) (by exact HL.out.rb.rs.mkr) (by omega) (by omega)).mono ?_;rintro e w3 ⟨x,hx,rfl,aX,hv3⟩;have x43:=dh hv3 gZ x4;have Wu:=dh hv3 gZ x1;clear _t bH)
     |(go_at_call 36;have _t:=dY;refine(ay _ m fs lp ks.length (by exact aX) (by omega) (by omega)).mono ?_;rintro e w4 ⟨y,hy,rfl,hm4,hv4⟩;have Wp:=dh hv4 gZ x43;have HR4:=(HL.out.drew.next hmw aX hv3).next hmw hm4 hv4;have zr4:=HR4.rb.rs.var.lt;have WF:=HR4.rb.bnd.2.2.2.2.2.2.2;obtain⟨vv,hcv,hvv⟩:=(Frz.row aeQ.ok HC.out HR4.rb.rs.mv (fun x hx=>by injection hx with hx;exact .inl (by omega))).agl hy;have HVV:=hd0 hvv;have o4:=(Sp.next aX hv4).own ((Sp.next HL.out.drew.rb.rs.mkr hv3).own (show wl.drew.ownsRow Wl.heap.size pI 2 (.slice A k c) k (nK cl) from HO.out) (by decide)) (by decide);obtain⟨A6,c6,w8,hrun,x9,y9,dG,h9⟩:=HR4.more hmw OT (by decide) (by decide) (by decide) (j:=4) (ai _) WF rfl o4 #[.int .i64 x,.int .i64 vv] rfl (by simp[Value.oneCell']) (by omega);have jX:=hd0 dG;have ik:=hd0 h9;clear _t dY HR4 o4 dG h9 aX hv3 hm4 hv4 hvv)))|fail
    all_goals
     have mi:=hd0 (ik.out.aga hmw (.slice A6 (k+1) c6));have hoa:(w8.setCell ⟨w.heap.size+1,4,none⟩ (.slice A6 (k+1) c6)).ownsRow Wl.heap.size pI 2 (.slice A6 (k+1) c6) (k+1) (nK (cl++[⟨(x:Int),vv⟩])):=by have:=(Sp.set (m:=m) ik.out.rb.rs.var (by omega) 4 (.slice A6 (k+1) c6)).own jX.out (by decide);simpa [nK,FI] using this
     have hin2:Hid (∀c∈cl++[(⟨(x:Int),vv⟩:Call)],In (1+q.length) c.at'/\c.lookup∈ks):=hd0 (fun n hn=>by
      rw[agJ,agF] at hn;rcases hn with hn|rfl
      ·exact hin.out n hn
      exact⟨⟨show(0:Int)<=(x:Int) by omega,show(x:Int)<((1+q.length:Nat):Int) by omega⟩,agM HVV.out⟩)
     have hl2:(cl++[(⟨(x:Int),vv⟩:Call)]).length=k+1:=by rw[la,Qk.out];rfl
     have oK:=hd0 hoa;have HL2:=hd0 hl2;clear hoa hl2 hrun x9 y9 ik jX x43 Wp Wu;go_wp2_with fail
     go_roundw
     case rel=>exact⟨k+1,cl++[⟨(x:Int),vv⟩],A6,c6,by omega,by simp,HL2.out,oK.out,hin2,mi⟩
     case measure=>simp[intOf];omega
   have v0:wl.cell? ⟨w.heap.size+1,0,none⟩=some (.slice Ab back.length cb):=HL.out.rb.rs.cell 0;have v1:wl.cell? ⟨w.heap.size+1,1,none⟩=some (.slice A5 (1+q.length) c5):=HL.out.rb.rs.cell 1;have v2:wl.cell? ⟨w.heap.size+1,2,none⟩=some (.slice Aa ahead.length ca):=HL.out.rb.rs.cell 2;have v3:wl.cell? ⟨w.heap.size+1,3,none⟩=some (.slice none 0 0):=HL.out.rb.rs.cell 3;have v4:wl.cell? ⟨w.heap.size+1,4,none⟩=some (.slice A k c):=HL.out.rb.rs.cell 4;have v5:wl.cell? ⟨w.heap.size+1,5,none⟩=some (.int .i64 0):=HL.out.rb.rs.cell 5;have r0:wl.cell? ⟨w.heap.size,0,none⟩=some (.slice none 0 0):=HL.out.rb.rs.res.cell 0;have r1:wl.cell? ⟨w.heap.size,1,none⟩=some (.slice none 0 0):=HL.out.rb.rs.res.cell 1;have r2:wl.cell? ⟨w.heap.size,2,none⟩=some (.slice none 0 0):=HL.out.rb.rs.res.cell 2;have r3:wl.cell? ⟨w.heap.size,3,none⟩=some (.slice none 0 0):=HL.out.rb.rs.res.cell 3;have r4:wl.cell? ⟨w.heap.size,4,none⟩=some (.slice none 0 0):=HL.out.rb.rs.res.cell 4;have r5:wl.cell? ⟨w.heap.size,5,none⟩=some (.int .i64 0):=HL.out.rb.rs.res.cell 5;have f0:=HL.out.rb.rs.res.frozen 0;have f1:=HL.out.rb.rs.res.frozen 1;have f2:=HL.out.rb.rs.res.frozen 2;have f3:=HL.out.rb.rs.res.frozen 3;have f4:=HL.out.rb.rs.res.frozen 4;have f5:=HL.out.rb.rs.res.frozen 5;obtain⟨b0,b1,b2,b3,b4,b5,b6,b7⟩:=HL.out.rb.bnd;have bq:=HL.out.bq;have hcl:=Qk.out;have hlq:([s]++q).length=1+q.length:=by simp;omega
   have key:jD w m fs lp G 4 (.returned (.agg #[.slice Ab back.length cb,.slice A5 (1+q.length) c5,.slice Aa ahead.length ca,.slice none 0 0,.slice A k c,.int .i64 0])) (AQ wl w.heap.size (.slice Ab back.length cb) (.slice A5 (1+q.length) c5) (.slice Aa ahead.length ca) (.slice none 0 0) (.slice A k c) (.int .i64 0))/\Bk (AQ wl w.heap.size (.slice Ab back.length cb) (.slice A5 (1+q.length) c5) (.slice Aa ahead.length ca) (.slice none 0 0) (.slice A k c) (.int .i64 0)) w.heap.size bJ #[.slice Ab back.length cb,.slice A5 (1+q.length) c5,.slice Aa ahead.length ca,.slice none 0 0,.slice A k c,.int .i64 0]:=by have hr:afa G 4 ⟨back,[s]++q,ahead,[],cl,0⟩:=afa.mk' (gV.out.mono (by omega)) ((aeZ.one HS.out).app HQ.out) (nH.out.mono (by omega)) (by simp) ⟨fun c hc=>⟨by have:=(hin.out c hc).1;unfold In at this;unfold N9;omega,HN.out _ (hin.out c hc).2⟩,show cl.length<=2 by omega⟩ (show N9 0 from by unfold N9;omega) (fun h=>absurd h (by decide)) (fun _=>rfl) (fun h=>absurd rfl h) (fun _=>rfl);have hfl:Fl aeR 1 wl (TS gX w.heap.size wl) ([.slice As s.length cs]++cells) ([s]++q):=(Fl.one (R:=aeR) ⟨As,cs,rfl,Frz.typed aeQ.ok HL.out.rb.set (by decide) (by omega)⟩ rfl).append (HL.out.fq.mono aeR.ok (TR.ts (by decide) (by omega)));have hrs:=HL.out.rb.rs;have Ii:=HL.out.rb.inn;have hot:=HO.out;rw[<-hlq] at hrs Ii;rw[<-hcl] at hrs hot;have hfin:=iY (G:=G) (kind:=4) (r:=⟨back,[s]++q,ahead,[],cl,0⟩) (A0:=Ab) (A1:=A5) (A2:=Aa) (A3:=none) (A4:=A) (c0:=cb) (c1:=c5) (c2:=ca) (c3:=0) (c4:=c) hrs hmw hr (show I64 0 from by unfold I64;omega) (Frz.typed aeR.ok HL.out.rb.fb (by decide) (by omega)) (cZ Ii hfl (by decide) (by omega) (by omega)) (Frz.typed aeR.ok HL.out.rb.fa (by decide) (by omega)) Sl.nil (cZ hot (GL _ _ cl (fun c hc=>⟨by have:=(hin.out c hc).1;unfold In at this;unfold I64;omega,by have:=HN.out _ (hin.out c hc).2;unfold N9 at this;unfold I64;omega⟩)) (by decide) (by omega) (by omega));simp only[hlq,hcl] at hfin;exact⟨hfin.2,hfin.1⟩
   have Bh:=hd0 key;clear key hcl hlq bq b0 b1 b2 b3 b4 b5 b6 b7;rcases Nat.lt_or_ge k kk with hlt|hge
   ·have hn0:ks.length=0:=by omega
    rw[hn0];go_wp2_with fail
    exact bodyPost_ret (dE Bh.out.2 rfl rfl) rfl Bh.out.1
   go_wp2_with fail
   exact bodyPost_ret (dE Bh.out.2 rfl rfl) rfl Bh.out.1
end Go.Proofs.YtkijckccfookeaaDoor
