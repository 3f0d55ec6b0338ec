/- Lemmas. -/
import Derived.Test.YtkijckccfookeaaGreatDoorV30
set_option linter.unusedVariables false
set_option linter.unusedSimpArgs false
set_option maxRecDepth 100000
set_option maxHeartbeats 32000000
namespace Go.Proofs.YtkijckccfookeaaGreatDoor
open Go.RowKit
attribute [-go_sem] Builtin.append_
def Oj (c:Call):List Value:=[.int .i64 c.at',.int .i64 c.lookup]
def sH (l:List Call):List Value:=l.flatMap Oj
theorem PO (w:World)(S:Bs)(p:List Call)(h:∀i∈p,I64 i.at'/\I64 i.lookup):Fl aov 2 w S (sH p) p:=tX w S Oj p (fun _ _=>rfl) (fun x hx=>⟨rfl,h x hx⟩)
theorem Sl.apJ {w:World}{S:Bs}{b o:Nat}{xs:List Int}(h:Sl anO 1 w S (some ⟨b,o,none⟩) xs){k:Nat}(hk:k<xs.length):∃x,w.cell? ⟨b,o+k,none⟩=some (.int .i64 x)/\xs[k]? =some x:=by obtain⟨b',o',x,e,-,hx,hc,-⟩:=h.int hk;simp only[aqM,Addr.mk.injEq,and_true] at e;obtain⟨rfl,rfl⟩:=e;exact⟨x,hc,hx.out⟩
theorem Wn (w:World)(m:Nat)(fs:Nat->Value)(lp:Int)(G:Nat)(Ag:Option Addr)(cg:Nat)(Ac:Option Addr)(cc:Nat)(h:Mk w m fs lp)(hf:fs 1= .slice Ag G cg)(h1:1<=G)(hG:G<=1000)(ks:List Int)(loC hiC:Nat)(hc:Sl anO 1 w (TR [aY] loC hiC w) Ac ks)(hlo:m<loC)(hN:∀x∈ks,N9 x)(hks:ks.length<=1000):Calls Tryz.prog 108 #[.pointer (some ⟨m,0,none⟩),.int .i64 4,.slice Ac ks.length cc] w (lD w m fs lp G 4):=by
 have HC:=hd0 hc;have HN:=hd0 hN;clear hc hN;have hmw:=h.lt;have qg:w.cell? ⟨m,3,none⟩=some (.slice Ag G cg):=by have:=h.cells.1 1 (by omega);rw[hf] at this;exact this
 have H:=hd0 h;have HF:=hd0 hf;clear h hf;go_enter Tryz.func108,Tryz.ntmps108
 go_wp2_with fail
 obtain⟨W0,hW0⟩:∃W0,(w.alloc (.cells fO dC)).alloc (.cells fO dC)=W0:=⟨_,rfl⟩
 have HR:Hid (RS w m fs lp fO W0):=by rw[<-hW0];exact hd0 (RS.begin H.out)
 have z0:W0.heap.size=w.heap.size+2:=by rw[<-hW0];simp
 unfold fO at hW0;rw[hW0];clear hW0 qg;refine(qX W0 m fs lp G Ag cg HR.out.mkr HF.out h1 hG).mono ?_;rintro e w1 ⟨s,As,cs,hs,hs1,rfl,hsl,hm1,hv1⟩;have HR1:=hd0 (HR.out.next hm1 hv1);have HF9:=hd0 (Frz.of anO.ok hsl);have HS:=hd0 hs;have z1:=hv1.size;have x1:w1.cell? ⟨w.heap.size+1,1,none⟩=some (.slice none 0 0):=HR1.out.cell 1;have y1:=HR1.out.var.frozen 1;have zr:=HR1.out.var.lt;clear hsl hm1 hv1 HR hs;go_wp2_with fail
 obtain⟨W2,hW2⟩:∃W2,(w1.setCell ⟨w.heap.size+1,1,none⟩ (.slice (some ⟨w1.heap.size,0,none⟩) 1 1)).alloc (.cells #[.slice As s.length cs] tRow)=W2:=⟨_,rfl⟩
 rw[hW2];obtain⟨hR2,hF2,hO2,z2⟩:=HR1.out.in0 hmw HF9.out (by omega) (by omega) hW2;have HR2:=hd0 hR2;have F2:=hd0 hF2;have O2:=hd0 hO2;clear hR2 hF2 hO2 hW2 x1 y1 HR1 HF9;go_wp2_with fail
 refine(aC W2 m fs lp 2 HR2.out.mkr (by omega) (by omega)).mono ?_;rintro e w3 ⟨y,hy,rfl,bF,hv3⟩;have rf:=HR2.out.next bF hv3;have hF3:=Frz.next anO.ok F2.out (by omega) hv3;have hO3:=(Sp.next HR2.out.mkr hv3).own O2.out (by decide);have z3:=hv3.size;have HR3:=hd0 rf;have F3:=hd0 hF3;have O3:=hd0 hO3;clear rf hF3 hO3 bF hv3 HR2 F2 O2;by_cases y0:y=0
 ·have e0:((y:Int)==0)=true:=by simp;omega
  clear y0;go_wp2_with fail
  refine(iD w3 m fs lp G Ag cg HR3.out.mkr HF.out h1 hG).mono ?_;rintro e w4 ⟨back,Ab,cb,hB,rfl,hbl,hm4,hv4⟩;have HR4:=hd0 (HR3.out.next hm4 hv4);have F4:=hd0 (Frz.next anO.ok F3.out (by omega) hv4);have O4:=hd0 ((Sp.next HR3.out.mkr hv4).own O3.out (by decide));have xQ:=hd0 (Frz.of anN.ok hbl);have z4:=hv4.size;have x4:w4.cell? ⟨w.heap.size+1,0,none⟩=some (.slice none 0 0):=HR4.out.cell 0;have y4:=HR4.out.var.frozen 0;clear hbl hm4 hv4 HR3 F3 O3;go_wp2_with fail
  obtain⟨W5,lI⟩:∃W5,w4.setCell ⟨w.heap.size+1,0,none⟩ (.slice Ab back.length cb)=W5:=⟨_,rfl⟩
  have sF:=HR4.out.put hmw 0 (.slice Ab back.length cb);have mX:=Frz.put anO.ok F4.out (g:=w.heap.size+1) (.inl (by omega)) 0 (.slice Ab back.length cb);have sJ:=Frz.put anN.ok xQ.out (g:=w.heap.size+1) (.inl (by omega)) 0 (.slice Ab back.length cb);have rO:=(Sp.set (m:=m) HR4.out.var (by omega) 0 (.slice Ab back.length cb)).own O4.out (by decide);have z5:W5.heap.size=w4.heap.size:=by rw[<-lI];simp
  rw[lI] at sF mX sJ rO ⊢;have nR:=hd0 sF;have F5:=hd0 mX;have xJ:=hd0 sJ;have O5:=hd0 rO;clear sF mX sJ rO lI HR4 F4 O4 xQ x4 y4;refine(iD W5 m fs lp G Ag cg nR.out.mkr HF.out h1 hG).mono ?_;rintro e w6 ⟨ahead,Aa,ca,hA,rfl,hal,uC,hv6⟩;have kJ:=hd0 (nR.out.next uC hv6);have F6:=hd0 (Frz.next anO.ok F5.out (by omega) hv6);have xP:=hd0 (Frz.next anN.ok xJ.out (by omega) hv6);have O6:=hd0 ((Sp.next nR.out.mkr hv6).own O5.out (by decide));have xZ:=hd0 (Frz.of anN.ok hal);have z6:=hv6.size;have x6:w6.cell? ⟨w.heap.size+1,2,none⟩=some (.slice none 0 0):=kJ.out.cell 2;have y6:=kJ.out.var.frozen 2;clear hal uC hv6 nR F5 O5 xJ;go_wp2_with fail
  obtain⟨Wx,gp⟩:∃Wx,w6.setCell ⟨w.heap.size+1,2,none⟩ (.slice Aa ahead.length ca)=Wx:=⟨_,rfl⟩
  have sN:=kJ.out.put hmw 2 (.slice Aa ahead.length ca);have nU:=Frz.put anO.ok F6.out (g:=w.heap.size+1) (.inl (by omega)) 2 (.slice Aa ahead.length ca);have su:=Frz.put anN.ok xP.out (g:=w.heap.size+1) (.inl (by omega)) 2 (.slice Aa ahead.length ca);have rU:=Frz.put anN.ok xZ.out (g:=w.heap.size+1) (.inl (by omega)) 2 (.slice Aa ahead.length ca);have rH:=(Sp.set (m:=m) kJ.out.var (by omega) 2 (.slice Aa ahead.length ca)).own O6.out (by decide);have z7:Wx.heap.size=w6.heap.size:=by rw[<-gp];simp
  rw[gp] at sN nU su rU rH ⊢;have hpk:∃(back:List (List Int)) (Ab:Option Addr) (cb:Nat) (ahead:List (List Int)) (Aa:Option Addr) (ca:Nat) (bG hib bH hia:Nat),RB w m fs lp Wx.heap.size W0.heap.size w1.heap.size As s (.slice (some ⟨w1.heap.size,0,none⟩) 1 1) 1 [.slice As s.length cs] bG hib Ab cb back bH hia Aa ca ahead (.slice none 0 0) (.slice none 0 0) Wx/\anW G 2 back/\anW G 2 ahead/\(w1.heap.size<bG\/hib<=w1.heap.size)/\(w1.heap.size<bH\/hia<=w1.heap.size):=⟨back,Ab,cb,ahead,Aa,ca,w3.heap.size,w4.heap.size,W5.heap.size,w6.heap.size,⟨sN,nU,rH,su,rU,by omega,by omega,by omega,by omega,by omega,by omega,by omega,ag _⟩,hB,hA,.inl (by omega),.inl (by omega)⟩
  have hzx:w1.heap.size+1<=Wx.heap.size:=by omega
  clear sN nU su rU rH gp kJ F6 xP O6 xZ x6 y6 hB hA z3 z4 z5 z6 z7;obtain⟨back,Ab,cb,ahead,Aa,ca,bG,hib,bH,hia,hrb,hB,hA,hbb,hba⟩:=hpk;have HX:=hd0 hrb;have eH:=hd0 hB;have rG:=hd0 hA;clear hrb hB hA;have x1:Wx.cell? ⟨w.heap.size+1,1,none⟩=some (.slice (some ⟨w1.heap.size,0,none⟩) 1 1):=HX.out.rs.cell 1;have jk:w.heap.size+1≠m:=by omega
  have bU:True:=trivial
  first|(go_region_with (go_at_call 151;have _t:=bU;refine(iD _ m fs lp G Ag cg (by exact HX.out.rs.mkr) HF.out h1 hG).mono ?_;rintro e wq ⟨q,Aq,cq,hq,rfl,xA,Ci,hvq⟩;have Oz:=dK hvq jk x1;have xy:=HX.out.drew.next hmw Ci hvq;have zq:=hvq.size;have zq':Wx.heap.size<=wq.heap.size:=zq;have zrq:=xy.rs.var.lt;obtain⟨A5,c5,w9,cells,hrun,x9,y9,h9⟩:=xy.app (cq:=cq) hmw ⟨ag _,hbb,hba⟩ (Frz.of anN.ok xA) (show w1.heap.size<Wx.heap.size by omega) (ag _) (show w.heap.size+2<=Wx.heap.size by omega) (by have:=hq.few;omega);have mZ:=hd0 h9;have HQ:=hd0 hq;clear _t bU xy h9 Ci hvq xA hq))|fail
  all_goals
   obtain⟨Wy,CV⟩:∃Wy,w9.setCell ⟨w.heap.size+1,1,none⟩ (.slice A5 (1+q.length) c5)=Wy:=⟨_,rfl⟩
   rw[CV] at mZ ⊢;clear CV hrun x9 y9 Oz x1;have hpq:∃jY kM,Hid (RQ w m fs lp w9.heap.size W0.heap.size w1.heap.size As s (.slice A5 (1+q.length) c5) (1+q.length) ([.slice As s.length cs]++cells) bG hib Ab cb back bH hia Aa ca ahead (.slice none 0 0) (.slice none 0 0) jY kM cells q Wy):=⟨_,_,mZ⟩
   clear mZ;obtain⟨jY,kM,mZ⟩:=hpq;have zq9:=mZ.out.rb.bnd.2.2.2.2.2.2.2;go_wp2_with fail
   refine(aC Wy m fs lp 3 mZ.out.rb.rs.mkr (by omega) (by omega)).mono ?_;rintro e Wl ⟨kk,hkk,rfl,hml,hvl⟩;have Qd:=hvl.size;have HX:=hd0 ((mZ.out.next hmw hml hvl).ao1 (nt zq9 Qd) (ag _));have hq2:=HQ.out.few;clear hml hvl mZ;go_wp2_with fail
   go_loopw [13] (fun i wr=>∃(k:Nat) (cl:List Call) (A:Option Addr) (c:Nat),k<=kk/\i= .int .i64 k/\cl.length=k/\wr.ownsRow Wl.heap.size vO 2 (.slice A k c) k (sH cl)/\Hid (∀c∈cl,In (1+q.length) c.at'/\c.lookup∈ks)/\Hid (RQ w m fs lp Wl.heap.size W0.heap.size w1.heap.size As s (.slice A5 (1+q.length) c5) (1+q.length) ([.slice As s.length cs]++cells) bG hib Ab cb back bH hia Aa ca ahead (.slice none 0 0) (.slice A k c) jY kM cells q wr)) (fun i _=>kk - (intOf i).toNat)
   case atStart=>exact⟨0,[],none,0,nz _,rfl,rfl,World.ownsRow_nil _ _ _ _,hd0 (by simp),HX⟩
   case round=>
    obtain⟨wl,rfl⟩:∃x,x=wr:=⟨_,rfl⟩
    obtain⟨k,cl,A,c,hk,rfl,hok,ho,hin,HL⟩:=hrel;have HO:=hd0 ho;have Yl:=hd0 hok;have zwl:=HL.out.rb.bnd.2.2.2.2.2.2.2;clear ho hok;by_cases hgo:k<kk/\0<ks.length
    ·obtain⟨hlt,hpos⟩:=hgo;obtain⟨bc,oc,rfl⟩:∃bc oc,Ac=some ⟨bc,oc,none⟩:=by obtain⟨b,o,-,e,-⟩:=HC.out.int hpos;exact⟨b,o,e⟩
     have x4:wl.cell? ⟨w.heap.size+1,4,none⟩=some (.slice A k c):=HL.out.rb.rs.cell 4;have x1:wl.cell? ⟨w.heap.size+1,1,none⟩=some (.slice A5 (1+q.length) c5):=HL.out.rb.rs.cell 1;have jk:w.heap.size+1≠m:=by omega
     go_wp2_with fail
     have bU:True:=trivial;have nX:True:=trivial
     first|(go_region_with (first
      |(go_at_call 59;have _t:=bU;refine(aC _ m fs lp (1+q.length) (by exact HL.out.rb.rs.mkr) (by omega) (by omega)).mono ?_;rintro e w3 ⟨x,hx,rfl,bF,hv3⟩;have x43:=dK hv3 jk x4;have x13:=dK hv3 jk x1;clear _t bU)
      |(go_at_call 59;have _t:=nX;refine(aC _ m fs lp ks.length (by exact bF) (by omega) (by omega)).mono ?_;rintro e w4 ⟨y,hy,rfl,hm4,hv4⟩;have x44:=dK hv4 jk x43;have HR4:=(HL.out.drew.next hmw bF hv3).next hmw hm4 hv4;have zr4:=HR4.rb.rs.var.lt;have zb4:=HR4.rb.bnd.2.2.2.2.2.2.2;obtain⟨vv,hcv,hvv⟩:=(Frz.row anO.ok HC.out HR4.rb.rs.mv (fun x hx=>by injection hx with hx;exact .inl (by omega))).apJ hy;have HVV:=hd0 hvv;have o4:=(Sp.next bF hv4).own ((Sp.next HL.out.drew.rb.rs.mkr hv3).own (show wl.drew.ownsRow Wl.heap.size vO 2 (.slice A k c) k (sH cl) from HO.out) (by decide)) (by decide);obtain⟨A6,c6,w8,hrun,x9,y9,aZ,h9⟩:=HR4.more hmw Qn (by decide) (by decide) (by decide) (j:=4) (ag _) zb4 rfl o4 #[.int .i64 x,.int .i64 vv] rfl (by simp[Value.oneCell']) (by omega);have kU:=hd0 aZ;have iH:=hd0 h9;clear _t nX HR4 o4 aZ h9 bF hv3 hm4 hv4 hvv)))|fail
     all_goals
      have pW:=hd0 (iH.out.apm hmw (.slice A6 (k+1) c6));have hoa:(w8.setCell ⟨w.heap.size+1,4,none⟩ (.slice A6 (k+1) c6)).ownsRow Wl.heap.size vO 2 (.slice A6 (k+1) c6) (k+1) (sH (cl++[⟨(x:Int),vv⟩])):=by have:=(Sp.set (m:=m) iH.out.rb.rs.var (by omega) 4 (.slice A6 (k+1) c6)).own kU.out (by decide);simpa [sH,Oj] using this
      have hin2:Hid (∀c∈cl++[(⟨(x:Int),vv⟩:Call)],In (1+q.length) c.at'/\c.lookup∈ks):=hd0 (fun n hn=>by
       rw[aqp,aql] at hn;rcases hn with hn|rfl
       ·exact hin.out n hn
       exact⟨⟨show(0:Int)<=(x:Int) by omega,show(x:Int)<((1+q.length:Nat):Int) by omega⟩,aqt HVV.out⟩)
      have hl2:(cl++[(⟨(x:Int),vv⟩:Call)]).length=k+1:=by rw[az,Yl.out];rfl
      have sV:=hd0 hoa;have HL2:=hd0 hl2;clear hoa hl2 hrun x9 y9 iH kU x43 x44 x13;go_wp2_with fail
      go_roundw
      case rel=>exact⟨k+1,cl++[⟨(x:Int),vv⟩],A6,c6,by omega,by simp,HL2.out,sV.out,hin2,pW⟩
      case measure=>simp[intOf];omega
    have v0:wl.cell? ⟨w.heap.size+1,0,none⟩=some (.slice Ab back.length cb):=HL.out.rb.rs.cell 0;have v1:wl.cell? ⟨w.heap.size+1,1,none⟩=some (.slice A5 (1+q.length) c5):=HL.out.rb.rs.cell 1;have v2:wl.cell? ⟨w.heap.size+1,2,none⟩=some (.slice Aa ahead.length ca):=HL.out.rb.rs.cell 2;have v3:wl.cell? ⟨w.heap.size+1,3,none⟩=some (.slice none 0 0):=HL.out.rb.rs.cell 3;have v4:wl.cell? ⟨w.heap.size+1,4,none⟩=some (.slice A k c):=HL.out.rb.rs.cell 4;have v5:wl.cell? ⟨w.heap.size+1,5,none⟩=some (.int .i64 0):=HL.out.rb.rs.cell 5;have r0:wl.cell? ⟨w.heap.size,0,none⟩=some (.slice none 0 0):=HL.out.rb.rs.res.cell 0;have r1:wl.cell? ⟨w.heap.size,1,none⟩=some (.slice none 0 0):=HL.out.rb.rs.res.cell 1;have r2:wl.cell? ⟨w.heap.size,2,none⟩=some (.slice none 0 0):=HL.out.rb.rs.res.cell 2;have r3:wl.cell? ⟨w.heap.size,3,none⟩=some (.slice none 0 0):=HL.out.rb.rs.res.cell 3;have r4:wl.cell? ⟨w.heap.size,4,none⟩=some (.slice none 0 0):=HL.out.rb.rs.res.cell 4;have r5:wl.cell? ⟨w.heap.size,5,none⟩=some (.int .i64 0):=HL.out.rb.rs.res.cell 5;have f0:=HL.out.rb.rs.res.frozen 0;have f1:=HL.out.rb.rs.res.frozen 1;have f2:=HL.out.rb.rs.res.frozen 2;have f3:=HL.out.rb.rs.res.frozen 3;have f4:=HL.out.rb.rs.res.frozen 4;have f5:=HL.out.rb.rs.res.frozen 5;obtain⟨b0,b1,b2,b3,b4,b5,b6,b7⟩:=HL.out.rb.bnd;have bq:=HL.out.bq;have hcl:=Yl.out;have hlq:([s]++q).length=1+q.length:=by simp;omega
    have key:lD w m fs lp G 4 (.returned (.agg #[.slice Ab back.length cb,.slice A5 (1+q.length) c5,.slice Aa ahead.length ca,.slice none 0 0,.slice A k c,.int .i64 0])) (Ia wl w.heap.size (.slice Ab back.length cb) (.slice A5 (1+q.length) c5) (.slice Aa ahead.length ca) (.slice none 0 0) (.slice A k c) (.int .i64 0))/\Bk (Ia wl w.heap.size (.slice Ab back.length cb) (.slice A5 (1+q.length) c5) (.slice Aa ahead.length ca) (.slice none 0 0) (.slice A k c) (.int .i64 0)) w.heap.size dC #[.slice Ab back.length cb,.slice A5 (1+q.length) c5,.slice Aa ahead.length ca,.slice none 0 0,.slice A k c,.int .i64 0]:=by have hr:aob G 4 ⟨back,[s]++q,ahead,[],cl,0⟩:=aob.mk' (eH.out.mono (by omega)) ((anW.one HS.out).app HQ.out) (rG.out.mono (by omega)) (by simp) ⟨fun c hc=>⟨by have:=(hin.out c hc).1;unfold In at this;unfold N9;omega,HN.out _ (hin.out c hc).2⟩,show cl.length<=2 by omega⟩ (show N9 0 from by unfold N9;omega) (fun h=>absurd h (by decide)) (fun _=>rfl) (fun h=>absurd rfl h) (fun _=>rfl);have hfl:Fl anN 1 wl (TS jf w.heap.size wl) ([.slice As s.length cs]++cells) ([s]++q):=(Fl.one (R:=anN) ⟨As,cs,rfl,Frz.typed anO.ok HL.out.rb.set (by decide) (by omega)⟩ rfl).append (HL.out.fq.mono anN.ok (TR.ts (by decide) (by omega)));have hrs:=HL.out.rb.rs;have Qg:=HL.out.rb.inn;have hot:=HO.out;rw[<-hlq] at hrs Qg;rw[<-hcl] at hrs hot;have hfin:=jJ (G:=G) (kind:=4) (r:=⟨back,[s]++q,ahead,[],cl,0⟩) (A0:=Ab) (A1:=A5) (A2:=Aa) (A3:=none) (A4:=A) (c0:=cb) (c1:=c5) (c2:=ca) (c3:=0) (c4:=c) hrs hmw hr (show I64 0 from by unfold I64;omega) (Frz.typed anN.ok HL.out.rb.fb (by decide) (by omega)) (dJ Qg hfl (by decide) (by omega) (by omega)) (Frz.typed anN.ok HL.out.rb.fa (by decide) (by omega)) Sl.nil (dJ hot (PO _ _ cl (fun c hc=>⟨by have:=(hin.out c hc).1;unfold In at this;unfold I64;omega,by have:=HN.out _ (hin.out c hc).2;unfold N9 at this;unfold I64;omega⟩)) (by decide) (by omega) (by omega));simp only[hlq,hcl] at hfin;exact⟨hfin.2,hfin.1⟩
    have GH:=hd0 key;clear key hcl hlq bq b0 b1 b2 b3 b4 b5 b6 b7;rcases Nat.lt_or_ge k kk with hlt|hge
    ·have hn0:ks.length=0:=by omega
     rw[hn0];go_wp2_with fail
     exact bodyPost_ret (dV GH.out.2 rfl rfl) rfl GH.out.1
    go_wp2_with fail
    exact bodyPost_ret (dV GH.out.2 rfl rfl) rfl GH.out.1
 have e0:((y:Int)==0)=false:=by simp;omega
 clear y0;go_wp2_with fail
 obtain⟨Wx,gp⟩:∃Wx,w3=Wx:=⟨_,rfl⟩
 subst gp;have hpk:∃(back:List (List Int)) (Ab:Option Addr) (cb:Nat) (ahead:List (List Int)) (Aa:Option Addr) (ca:Nat) (bG hib bH hia:Nat),RB w m fs lp w3.heap.size W0.heap.size w1.heap.size As s (.slice (some ⟨w1.heap.size,0,none⟩) 1 1) 1 [.slice As s.length cs] bG hib Ab cb back bH hia Aa ca ahead (.slice none 0 0) (.slice none 0 0) w3/\anW G 2 back/\anW G 2 ahead/\(w1.heap.size<bG\/hib<=w1.heap.size)/\(w1.heap.size<bH\/hia<=w1.heap.size):=⟨[],none,0,[],none,0,W0.heap.size,0,W0.heap.size,0,⟨HR3.out,F3.out,O3.out,Sl.nil,Sl.nil,by omega,by omega,by omega,by omega,by omega,by omega,by omega,ag _⟩,.nil _ _,.nil _ _,.inr (nz _),.inr (nz _)⟩
 have hzx:w1.heap.size+1<=w3.heap.size:=by omega
 obtain⟨Wx,gp⟩:∃Wx,w3=Wx:=⟨_,rfl⟩
 rw[gp] at hpk hzx ⊢;clear HR3 F3 O3 z3 gp;obtain⟨back,Ab,cb,ahead,Aa,ca,bG,hib,bH,hia,hrb,hB,hA,hbb,hba⟩:=hpk;have HX:=hd0 hrb;have eH:=hd0 hB;have rG:=hd0 hA;clear hrb hB hA;have x1:Wx.cell? ⟨w.heap.size+1,1,none⟩=some (.slice (some ⟨w1.heap.size,0,none⟩) 1 1):=HX.out.rs.cell 1;have jk:w.heap.size+1≠m:=by omega
 have bU:True:=trivial
 first|(go_region_with (go_at_call 151;have _t:=bU;refine(iD _ m fs lp G Ag cg (by exact HX.out.rs.mkr) HF.out h1 hG).mono ?_;rintro e wq ⟨q,Aq,cq,hq,rfl,xA,Ci,hvq⟩;have Oz:=dK hvq jk x1;have xy:=HX.out.drew.next hmw Ci hvq;have zq:=hvq.size;have zq':Wx.heap.size<=wq.heap.size:=zq;have zrq:=xy.rs.var.lt;obtain⟨A5,c5,w9,cells,hrun,x9,y9,h9⟩:=xy.app (cq:=cq) hmw ⟨ag _,hbb,hba⟩ (Frz.of anN.ok xA) (show w1.heap.size<Wx.heap.size by omega) (ag _) (show w.heap.size+2<=Wx.heap.size by omega) (by have:=hq.few;omega);have mZ:=hd0 h9;have HQ:=hd0 hq;clear _t bU xy h9 Ci hvq xA hq))|fail
 all_goals
  obtain⟨Wy,CV⟩:∃Wy,w9.setCell ⟨w.heap.size+1,1,none⟩ (.slice A5 (1+q.length) c5)=Wy:=⟨_,rfl⟩
  rw[CV] at mZ ⊢;clear CV hrun x9 y9 Oz x1;have hpq:∃jY kM,Hid (RQ w m fs lp w9.heap.size W0.heap.size w1.heap.size As s (.slice A5 (1+q.length) c5) (1+q.length) ([.slice As s.length cs]++cells) bG hib Ab cb back bH hia Aa ca ahead (.slice none 0 0) (.slice none 0 0) jY kM cells q Wy):=⟨_,_,mZ⟩
  clear mZ;obtain⟨jY,kM,mZ⟩:=hpq;have zq9:=mZ.out.rb.bnd.2.2.2.2.2.2.2;go_wp2_with fail
  refine(aC Wy m fs lp 3 mZ.out.rb.rs.mkr (by omega) (by omega)).mono ?_;rintro e Wl ⟨kk,hkk,rfl,hml,hvl⟩;have Qd:=hvl.size;have HX:=hd0 ((mZ.out.next hmw hml hvl).ao1 (nt zq9 Qd) (ag _));have hq2:=HQ.out.few;clear hml hvl mZ;go_wp2_with fail
  go_loopw [13] (fun i wr=>∃(k:Nat) (cl:List Call) (A:Option Addr) (c:Nat),k<=kk/\i= .int .i64 k/\cl.length=k/\wr.ownsRow Wl.heap.size vO 2 (.slice A k c) k (sH cl)/\Hid (∀c∈cl,In (1+q.length) c.at'/\c.lookup∈ks)/\Hid (RQ w m fs lp Wl.heap.size W0.heap.size w1.heap.size As s (.slice A5 (1+q.length) c5) (1+q.length) ([.slice As s.length cs]++cells) bG hib Ab cb back bH hia Aa ca ahead (.slice none 0 0) (.slice A k c) jY kM cells q wr)) (fun i _=>kk - (intOf i).toNat)
  case atStart=>exact⟨0,[],none,0,nz _,rfl,rfl,World.ownsRow_nil _ _ _ _,hd0 (by simp),HX⟩
  case round=>
   obtain⟨wl,rfl⟩:∃x,x=wr:=⟨_,rfl⟩
   obtain⟨k,cl,A,c,hk,rfl,hok,ho,hin,HL⟩:=hrel;have HO:=hd0 ho;have Yl:=hd0 hok;have zwl:=HL.out.rb.bnd.2.2.2.2.2.2.2;clear ho hok;by_cases hgo:k<kk/\0<ks.length
   ·obtain⟨hlt,hpos⟩:=hgo;obtain⟨bc,oc,rfl⟩:∃bc oc,Ac=some ⟨bc,oc,none⟩:=by obtain⟨b,o,-,e,-⟩:=HC.out.int hpos;exact⟨b,o,e⟩
    have x4:wl.cell? ⟨w.heap.size+1,4,none⟩=some (.slice A k c):=HL.out.rb.rs.cell 4;have x1:wl.cell? ⟨w.heap.size+1,1,none⟩=some (.slice A5 (1+q.length) c5):=HL.out.rb.rs.cell 1;have jk:w.heap.size+1≠m:=by omega
    go_wp2_with fail
    have bU:True:=trivial;have nX:True:=trivial
    first|(go_region_with (first
     |(go_at_call 59;have _t:=bU;refine(aC _ m fs lp (1+q.length) (by exact HL.out.rb.rs.mkr) (by omega) (by omega)).mono ?_;rintro e w3 ⟨x,hx,rfl,bF,hv3⟩;have x43:=dK hv3 jk x4;have x13:=dK hv3 jk x1;clear _t bU)
     |(go_at_call 59;have _t:=nX;refine(aC _ m fs lp ks.length (by exact bF) (by omega) (by omega)).mono ?_;rintro e w4 ⟨y,hy,rfl,hm4,hv4⟩;have x44:=dK hv4 jk x43;have HR4:=(HL.out.drew.next hmw bF hv3).next hmw hm4 hv4;have zr4:=HR4.rb.rs.var.lt;have zb4:=HR4.rb.bnd.2.2.2.2.2.2.2;obtain⟨vv,hcv,hvv⟩:=(Frz.row anO.ok HC.out HR4.rb.rs.mv (fun x hx=>by injection hx with hx;exact .inl (by omega))).apJ hy;have HVV:=hd0 hvv;have o4:=(Sp.next bF hv4).own ((Sp.next HL.out.drew.rb.rs.mkr hv3).own (show wl.drew.ownsRow Wl.heap.size vO 2 (.slice A k c) k (sH cl) from HO.out) (by decide)) (by decide);obtain⟨A6,c6,w8,hrun,x9,y9,aZ,h9⟩:=HR4.more hmw Qn (by decide) (by decide) (by decide) (j:=4) (ag _) zb4 rfl o4 #[.int .i64 x,.int .i64 vv] rfl (by simp[Value.oneCell']) (by omega);have kU:=hd0 aZ;have iH:=hd0 h9;clear _t nX HR4 o4 aZ h9 bF hv3 hm4 hv4 hvv)))|fail
    all_goals
     have pW:=hd0 (iH.out.apm hmw (.slice A6 (k+1) c6));have hoa:(w8.setCell ⟨w.heap.size+1,4,none⟩ (.slice A6 (k+1) c6)).ownsRow Wl.heap.size vO 2 (.slice A6 (k+1) c6) (k+1) (sH (cl++[⟨(x:Int),vv⟩])):=by have:=(Sp.set (m:=m) iH.out.rb.rs.var (by omega) 4 (.slice A6 (k+1) c6)).own kU.out (by decide);simpa [sH,Oj] using this
     have hin2:Hid (∀c∈cl++[(⟨(x:Int),vv⟩:Call)],In (1+q.length) c.at'/\c.lookup∈ks):=hd0 (fun n hn=>by
      rw[aqp,aql] at hn;rcases hn with hn|rfl
      ·exact hin.out n hn
      exact⟨⟨show(0:Int)<=(x:Int) by omega,show(x:Int)<((1+q.length:Nat):Int) by omega⟩,aqt HVV.out⟩)
     have hl2:(cl++[(⟨(x:Int),vv⟩:Call)]).length=k+1:=by rw[az,Yl.out];rfl
     have sV:=hd0 hoa;have HL2:=hd0 hl2;clear hoa hl2 hrun x9 y9 iH kU x43 x44 x13;go_wp2_with fail
     go_roundw
     case rel=>exact⟨k+1,cl++[⟨(x:Int),vv⟩],A6,c6,by omega,by simp,HL2.out,sV.out,hin2,pW⟩
     case measure=>simp[intOf];omega
   have v0:wl.cell? ⟨w.heap.size+1,0,none⟩=some (.slice Ab back.length cb):=HL.out.rb.rs.cell 0;have v1:wl.cell? ⟨w.heap.size+1,1,none⟩=some (.slice A5 (1+q.length) c5):=HL.out.rb.rs.cell 1;have v2:wl.cell? ⟨w.heap.size+1,2,none⟩=some (.slice Aa ahead.length ca):=HL.out.rb.rs.cell 2;have v3:wl.cell? ⟨w.heap.size+1,3,none⟩=some (.slice none 0 0):=HL.out.rb.rs.cell 3;have v4:wl.cell? ⟨w.heap.size+1,4,none⟩=some (.slice A k c):=HL.out.rb.rs.cell 4;have v5:wl.cell? ⟨w.heap.size+1,5,none⟩=some (.int .i64 0):=HL.out.rb.rs.cell 5;have r0:wl.cell? ⟨w.heap.size,0,none⟩=some (.slice none 0 0):=HL.out.rb.rs.res.cell 0;have r1:wl.cell? ⟨w.heap.size,1,none⟩=some (.slice none 0 0):=HL.out.rb.rs.res.cell 1;have r2:wl.cell? ⟨w.heap.size,2,none⟩=some (.slice none 0 0):=HL.out.rb.rs.res.cell 2;have r3:wl.cell? ⟨w.heap.size,3,none⟩=some (.slice none 0 0):=HL.out.rb.rs.res.cell 3;have r4:wl.cell? ⟨w.heap.size,4,none⟩=some (.slice none 0 0):=HL.out.rb.rs.res.cell 4;have r5:wl.cell? ⟨w.heap.size,5,none⟩=some (.int .i64 0):=HL.out.rb.rs.res.cell 5;have f0:=HL.out.rb.rs.res.frozen 0;have f1:=HL.out.rb.rs.res.frozen 1;have f2:=HL.out.rb.rs.res.frozen 2;have f3:=HL.out.rb.rs.res.frozen 3;have f4:=HL.out.rb.rs.res.frozen 4;have f5:=HL.out.rb.rs.res.frozen 5;obtain⟨b0,b1,b2,b3,b4,b5,b6,b7⟩:=HL.out.rb.bnd;have bq:=HL.out.bq;have hcl:=Yl.out;have hlq:([s]++q).length=1+q.length:=by simp;omega
   have key:lD w m fs lp G 4 (.returned (.agg #[.slice Ab back.length cb,.slice A5 (1+q.length) c5,.slice Aa ahead.length ca,.slice none 0 0,.slice A k c,.int .i64 0])) (Ia wl w.heap.size (.slice Ab back.length cb) (.slice A5 (1+q.length) c5) (.slice Aa ahead.length ca) (.slice none 0 0) (.slice A k c) (.int .i64 0))/\Bk (Ia wl w.heap.size (.slice Ab back.length cb) (.slice A5 (1+q.length) c5) (.slice Aa ahead.length ca) (.slice none 0 0) (.slice A k c) (.int .i64 0)) w.heap.size dC #[.slice Ab back.length cb,.slice A5 (1+q.length) c5,.slice Aa ahead.length ca,.slice none 0 0,.slice A k c,.int .i64 0]:=by have hr:aob G 4 ⟨back,[s]++q,ahead,[],cl,0⟩:=aob.mk' (eH.out.mono (by omega)) ((anW.one HS.out).app HQ.out) (rG.out.mono (by omega)) (by simp) ⟨fun c hc=>⟨by have:=(hin.out c hc).1;unfold In at this;unfold N9;omega,HN.out _ (hin.out c hc).2⟩,show cl.length<=2 by omega⟩ (show N9 0 from by unfold N9;omega) (fun h=>absurd h (by decide)) (fun _=>rfl) (fun h=>absurd rfl h) (fun _=>rfl);have hfl:Fl anN 1 wl (TS jf w.heap.size wl) ([.slice As s.length cs]++cells) ([s]++q):=(Fl.one (R:=anN) ⟨As,cs,rfl,Frz.typed anO.ok HL.out.rb.set (by decide) (by omega)⟩ rfl).append (HL.out.fq.mono anN.ok (TR.ts (by decide) (by omega)));have hrs:=HL.out.rb.rs;have Qg:=HL.out.rb.inn;have hot:=HO.out;rw[<-hlq] at hrs Qg;rw[<-hcl] at hrs hot;have hfin:=jJ (G:=G) (kind:=4) (r:=⟨back,[s]++q,ahead,[],cl,0⟩) (A0:=Ab) (A1:=A5) (A2:=Aa) (A3:=none) (A4:=A) (c0:=cb) (c1:=c5) (c2:=ca) (c3:=0) (c4:=c) hrs hmw hr (show I64 0 from by unfold I64;omega) (Frz.typed anN.ok HL.out.rb.fb (by decide) (by omega)) (dJ Qg hfl (by decide) (by omega) (by omega)) (Frz.typed anN.ok HL.out.rb.fa (by decide) (by omega)) Sl.nil (dJ hot (PO _ _ cl (fun c hc=>⟨by have:=(hin.out c hc).1;unfold In at this;unfold I64;omega,by have:=HN.out _ (hin.out c hc).2;unfold N9 at this;unfold I64;omega⟩)) (by decide) (by omega) (by omega));simp only[hlq,hcl] at hfin;exact⟨hfin.2,hfin.1⟩
   have GH:=hd0 key;clear key hcl hlq bq b0 b1 b2 b3 b4 b5 b6 b7;rcases Nat.lt_or_ge k kk with hlt|hge
   ·have hn0:ks.length=0:=by omega
    rw[hn0];go_wp2_with fail
    exact bodyPost_ret (dV GH.out.2 rfl rfl) rfl GH.out.1
   go_wp2_with fail
   exact bodyPost_ret (dV GH.out.2 rfl rfl) rfl GH.out.1
end Go.Proofs.YtkijckccfookeaaGreatDoor
