/- Lemmas. -/
import Derived.Test.YtkijckccfookeaaGreatDoorV32
import Derived.Sort.OwnSortedInts
set_option linter.unusedVariables false
set_option linter.unusedSimpArgs false
set_option maxRecDepth 100000
set_option maxHeartbeats 32000000
namespace Go.Proofs.YtkijckccfookeaaGreatDoor
section
open Go.RowKit
attribute [-go_sem] Builtin.append_
theorem aak (w:World)(m:Nat)(fs:Nat->Value)(lp:Int)(G:Nat)(Ag:Option Addr)(cg:Nat)(Ac:Option Addr)(nc cc:Nat)(h:Mk w m fs lp)(hf:fs 1= .slice Ag G cg)(h1:1<=G)(hG:G<=1000):Calls Tryz.prog 108 #[.pointer (some ⟨m,0,none⟩),.int .i64 3,.slice Ac nc cc] w (lD w m fs lp G 3):=by
 have hmw:=h.lt;have qg:w.cell? ⟨m,3,none⟩=some (.slice Ag G cg):=by have:=h.cells.1 1 (by omega);rw[hf] at this;exact this
 have H:=hd0 h;have HF:=hd0 hf;clear h hf;go_enter Tryz.func108,Tryz.ntmps108
 go_wp2_with fail
 obtain⟨W0,hW0⟩:∃W0,(w.alloc (.cells fO dC)).alloc (.cells fO dC)=W0:=⟨_,rfl⟩
 have HR:Hid (RS w m fs lp fO W0):=by rw[<-hW0];exact hd0 (RS.begin H.out)
 have z0:W0.heap.size=w.heap.size+2:=by rw[<-hW0];simp
 unfold fO at hW0;rw[hW0];clear hW0 qg;refine(qX W0 m fs lp G Ag cg HR.out.mkr HF.out h1 hG).mono ?_;rintro e w1 ⟨s,As,cs,hs,hs1,rfl,hsl,hm1,hv1⟩;have HR1:=hd0 (HR.out.next hm1 hv1);have HF9:=hd0 (Frz.of anO.ok hsl);have HS:=hd0 hs;have z1:=hv1.size;have x1:w1.cell? ⟨w.heap.size+1,1,none⟩=some (.slice none 0 0):=HR1.out.cell 1;have y1:=HR1.out.var.frozen 1;have zr:=HR1.out.var.lt;clear hsl hm1 hv1 HR hs;go_wp2_with fail
 obtain⟨W2,hW2⟩:∃W2,(w1.setCell ⟨w.heap.size+1,1,none⟩ (.slice (some ⟨w1.heap.size,0,none⟩) 1 1)).alloc (.cells #[.slice As s.length cs] tRow)=W2:=⟨_,rfl⟩
 rw[hW2];obtain⟨hR2,hF2,hO2,z2⟩:=HR1.out.in0 hmw HF9.out (by omega) (by omega) hW2;have HR2:=hd0 hR2;have F2:=hd0 hF2;have O2:=hd0 hO2;clear hR2 hF2 hO2 hW2 x1 y1 HR1 HF9;go_wp2_with fail
 refine(aC W2 m fs lp 2 HR2.out.mkr (by omega) (by omega)).mono ?_;rintro e w3 ⟨y,hy,rfl,bF,hv3⟩;have rf:=HR2.out.next bF hv3;have hF3:=Frz.next anO.ok F2.out (by omega) hv3;have hO3:=(Sp.next HR2.out.mkr hv3).own O2.out (by decide);have z3:=hv3.size;have HR3:=hd0 rf;have F3:=hd0 hF3;have O3:=hd0 hO3;clear rf hF3 hO3 bF hv3 HR2 F2 O2;by_cases y0:y=0
 ·have e0:((y:Int)==0)=true:=by simp;omega
  clear y0;go_wp2_with fail
  refine(iD w3 m fs lp G Ag cg HR3.out.mkr HF.out h1 hG).mono ?_;rintro e w4 ⟨back,Ab,cb,hB,rfl,hbl,hm4,hv4⟩;have HR4:=hd0 (HR3.out.next hm4 hv4);have F4:=hd0 (Frz.next anO.ok F3.out (by omega) hv4);have O4:=hd0 ((Sp.next HR3.out.mkr hv4).own O3.out (by decide));have xQ:=hd0 (Frz.of anN.ok hbl);have z4:=hv4.size;have x4:w4.cell? ⟨w.heap.size+1,0,none⟩=some (.slice none 0 0):=HR4.out.cell 0;have y4:=HR4.out.var.frozen 0;clear hbl hm4 hv4 HR3 F3 O3;go_wp2_with fail
  obtain⟨W5,lI⟩:∃W5,w4.setCell ⟨w.heap.size+1,0,none⟩ (.slice Ab back.length cb)=W5:=⟨_,rfl⟩
  have sF:=HR4.out.put hmw 0 (.slice Ab back.length cb);have mX:=Frz.put anO.ok F4.out (g:=w.heap.size+1) (.inl (by omega)) 0 (.slice Ab back.length cb);have sJ:=Frz.put anN.ok xQ.out (g:=w.heap.size+1) (.inl (by omega)) 0 (.slice Ab back.length cb);have rO:=(Sp.set (m:=m) HR4.out.var (by omega) 0 (.slice Ab back.length cb)).own O4.out (by decide);have z5:W5.heap.size=w4.heap.size:=by rw[<-lI];simp
  rw[lI] at sF mX sJ rO ⊢;have nR:=hd0 sF;have F5:=hd0 mX;have xJ:=hd0 sJ;have O5:=hd0 rO;clear sF mX sJ rO lI HR4 F4 O4 xQ x4 y4;refine(iD W5 m fs lp G Ag cg nR.out.mkr HF.out h1 hG).mono ?_;rintro e w6 ⟨ahead,Aa,ca,hA,rfl,hal,uC,hv6⟩;have kJ:=hd0 (nR.out.next uC hv6);have F6:=hd0 (Frz.next anO.ok F5.out (by omega) hv6);have xP:=hd0 (Frz.next anN.ok xJ.out (by omega) hv6);have O6:=hd0 ((Sp.next nR.out.mkr hv6).own O5.out (by decide));have xZ:=hd0 (Frz.of anN.ok hal);have z6:=hv6.size;have x6:w6.cell? ⟨w.heap.size+1,2,none⟩=some (.slice none 0 0):=kJ.out.cell 2;have y6:=kJ.out.var.frozen 2;clear hal uC hv6 nR F5 O5 xJ;go_wp2_with fail
  obtain⟨Wx,gp⟩:∃Wx,w6.setCell ⟨w.heap.size+1,2,none⟩ (.slice Aa ahead.length ca)=Wx:=⟨_,rfl⟩
  have sN:=kJ.out.put hmw 2 (.slice Aa ahead.length ca);have nU:=Frz.put anO.ok F6.out (g:=w.heap.size+1) (.inl (by omega)) 2 (.slice Aa ahead.length ca);have su:=Frz.put anN.ok xP.out (g:=w.heap.size+1) (.inl (by omega)) 2 (.slice Aa ahead.length ca);have rU:=Frz.put anN.ok xZ.out (g:=w.heap.size+1) (.inl (by omega)) 2 (.slice Aa ahead.length ca);have rH:=(Sp.set (m:=m) kJ.out.var (by omega) 2 (.slice Aa ahead.length ca)).own O6.out (by decide);have z7:Wx.heap.size=w6.heap.size:=by rw[<-gp];simp
  rw[gp] at sN nU su rU rH ⊢;have hpk:∃(back:List (List Int)) (Ab:Option Addr) (cb:Nat) (ahead:List (List Int)) (Aa:Option Addr) (ca:Nat) (bG hib bH hia:Nat),RB w m fs lp Wx.heap.size W0.heap.size w1.heap.size As s (.slice (some ⟨w1.heap.size,0,none⟩) 1 1) 1 [.slice As s.length cs] bG hib Ab cb back bH hia Aa ca ahead (.slice none 0 0) (.slice none 0 0) Wx/\anW G 2 back/\anW G 2 ahead/\(w1.heap.size<bG\/hib<=w1.heap.size)/\(w1.heap.size<bH\/hia<=w1.heap.size):=⟨back,Ab,cb,ahead,Aa,ca,w3.heap.size,w4.heap.size,W5.heap.size,w6.heap.size,⟨sN,nU,rH,su,rU,by omega,by omega,by omega,by omega,by omega,by omega,by omega,ag _⟩,hB,hA,.inl (by omega),.inl (by omega)⟩
  have hzx:w1.heap.size+1<=Wx.heap.size:=by omega
  clear sN nU su rU rH gp kJ F6 xP O6 xZ x6 y6 hB hA z3 z4 z5 z6 z7;obtain⟨back,Ab,cb,ahead,Aa,ca,bG,hib,bH,hia,hrb,hB,hA,hbb,hba⟩:=hpk;have HX:=hd0 hrb;have eH:=hd0 hB;have rG:=hd0 hA;clear hrb hB hA;have x1:Wx.cell? ⟨w.heap.size+1,1,none⟩=some (.slice (some ⟨w1.heap.size,0,none⟩) 1 1):=HX.out.rs.cell 1;have jk:w.heap.size+1≠m:=by omega
  have bU:True:=trivial
  first|(go_region_with (go_at_call 151;have _t:=bU;refine(iD _ m fs lp G Ag cg (by exact HX.out.rs.mkr) HF.out h1 hG).mono ?_;rintro e wq ⟨q,Aq,cq,hq,rfl,xA,Ci,hvq⟩;have Oz:=dK hvq jk x1;have xy:=HX.out.drew.next hmw Ci hvq;have zq:=hvq.size;have zq':Wx.heap.size<=wq.heap.size:=zq;have zrq:=xy.rs.var.lt;obtain⟨A5,c5,w9,cells,hrun,x9,y9,h9⟩:=xy.app (cq:=cq) hmw ⟨ag _,hbb,hba⟩ (Frz.of anN.ok xA) (show w1.heap.size<Wx.heap.size by omega) (ag _) (show w.heap.size+2<=Wx.heap.size by omega) (by have:=hq.few;omega);have mZ:=hd0 h9;have HQ:=hd0 hq;clear _t bU xy h9 Ci hvq xA hq))|fail
  all_goals
   obtain⟨Wy,CV⟩:∃Wy,w9.setCell ⟨w.heap.size+1,1,none⟩ (.slice A5 (1+q.length) c5)=Wy:=⟨_,rfl⟩
   rw[CV] at mZ ⊢;clear CV hrun x9 y9 Oz x1;go_wp2_with fail
   refine(aC Wy m fs lp G mZ.out.rb.rs.mkr h1 (by omega)).mono ?_;rintro e wb ⟨x,hx,rfl,hmb,hvb⟩;have Hf:=hd0 (mZ.out.next hmw hmb hvb);have zb:=hvb.size;clear hmb hvb;have v3:wb.cell? ⟨w.heap.size+1,3,none⟩=some (.slice none 0 0):=Hf.out.rb.rs.cell 3;have y3:=Hf.out.rb.rs.var.frozen 3;have zrb:=Hf.out.rb.rs.var.lt
   go_upto_region 33 with fail
   have hb0:Below wb.heap.size (wb.setCell ⟨w.heap.size+1,3,none⟩ (.slice (some ⟨wb.heap.size,0,none⟩) 1 1)) ((wb.setCell ⟨w.heap.size+1,3,none⟩ (.slice (some ⟨wb.heap.size,0,none⟩) 1 1)).alloc (.cells #[.int .i64 x] aY)):=by have:=(aqk (wb.setCell ⟨w.heap.size+1,3,none⟩ (.slice (some ⟨wb.heap.size,0,none⟩) 1 1)).heap.size (wb.setCell ⟨w.heap.size+1,3,none⟩ (.slice (some ⟨wb.heap.size,0,none⟩) 1 1))).alloc (ag _) (.cells #[.int .i64 x] aY);simpa using this
   have hput:=Hf.out.aoX hmw (.slice (some ⟨wb.heap.size,0,none⟩) 1 1);have hE:=hput.below (w2:=(wb.setCell ⟨w.heap.size+1,3,none⟩ (.slice (some ⟨wb.heap.size,0,none⟩) 1 1)).alloc (.cells #[.int .i64 x] aY)) (by simpa using hb0);have hown:=yE (wb.setCell ⟨w.heap.size+1,3,none⟩ (.slice (some ⟨wb.heap.size,0,none⟩) 1 1)) w.heap.size aY 1 1 #[.int .i64 x] (by simp;omega) rfl (by omega);simp only[World.size_setCell] at hown;obtain⟨WE,XX⟩:∃WE,(wb.setCell ⟨w.heap.size+1,3,none⟩ (.slice (some ⟨wb.heap.size,0,none⟩) 1 1)).alloc (.cells #[.int .i64 x] aY)=WE:=⟨_,rfl⟩
   rw[XX] at hE hown ⊢;clear hb0 hput XX;have v0:WE.cell? ⟨w.heap.size+1,0,none⟩=some (.slice Ab back.length cb):=hE.rb.rs.cell 0;have v1:WE.cell? ⟨w.heap.size+1,1,none⟩=some (.slice A5 (1+q.length) c5):=hE.rb.rs.cell 1;have v2:WE.cell? ⟨w.heap.size+1,2,none⟩=some (.slice Aa ahead.length ca):=hE.rb.rs.cell 2;have v3:WE.cell? ⟨w.heap.size+1,3,none⟩=some (.slice (some ⟨wb.heap.size,0,none⟩) 1 1):=hE.rb.rs.cell 3;have v4:WE.cell? ⟨w.heap.size+1,4,none⟩=some (.slice none 0 0):=hE.rb.rs.cell 4;have v5:WE.cell? ⟨w.heap.size+1,5,none⟩=some (.int .i64 0):=hE.rb.rs.cell 5;have r0:WE.cell? ⟨w.heap.size,0,none⟩=some (.slice none 0 0):=hE.rb.rs.res.cell 0;have r1:WE.cell? ⟨w.heap.size,1,none⟩=some (.slice none 0 0):=hE.rb.rs.res.cell 1;have r2:WE.cell? ⟨w.heap.size,2,none⟩=some (.slice none 0 0):=hE.rb.rs.res.cell 2;have r3:WE.cell? ⟨w.heap.size,3,none⟩=some (.slice none 0 0):=hE.rb.rs.res.cell 3;have r4:WE.cell? ⟨w.heap.size,4,none⟩=some (.slice none 0 0):=hE.rb.rs.res.cell 4;have r5:WE.cell? ⟨w.heap.size,5,none⟩=some (.int .i64 0):=hE.rb.rs.res.cell 5;have f0:=hE.rb.rs.res.frozen 0;have f1:=hE.rb.rs.res.frozen 1;have f2:=hE.rb.rs.res.frozen 2;have f3:=hE.rb.rs.res.frozen 3;have f4:=hE.rb.rs.res.frozen 4;have f5:=hE.rb.rs.res.frozen 5;go_wp2_with fail
   obtain⟨b0,b1,b2,b3,b4,b5,b6,b7⟩:=hE.rb.bnd;have bq:=hE.bq;have hr:aob G 3 ⟨back,[s]++q,ahead,[(x:Int)],[],0⟩:=aob.mk' (eH.out.mono (by omega)) ((anW.one HS.out).app HQ.out) (rG.out.mono (by omega)) ⟨fun n hn=>by simp only[aql] at hn;subst hn;exact⟨by omega,by omega⟩,by simp⟩ (by simp) (show N9 0 from by unfold N9;omega) (fun h=>absurd h (by decide)) (fun h=>absurd h (by decide)) (fun _=>rfl) (fun _=>rfl);have hfl:Fl anN 1 WE (TS jf w.heap.size WE) ([.slice As s.length cs]++cells) ([s]++q):=(Fl.one (R:=anN) ⟨As,cs,rfl,Frz.typed anO.ok hE.rb.set (by decide) (by omega)⟩ rfl).append (hE.fq.mono anN.ok (TR.ts (by decide) (by omega)));have hlq:([s]++q).length=1+q.length:=by simp;omega
   have hrs:=hE.rb.rs;have hin:=hE.rb.inn;rw[<-hlq] at hrs hin;have hfin:=jJ (G:=G) (kind:=3) (r:=⟨back,[s]++q,ahead,[(x:Int)],[],0⟩) (A0:=Ab) (A1:=A5) (A2:=Aa) (A3:=some ⟨wb.heap.size,0,none⟩) (A4:=none) (c0:=cb) (c1:=c5) (c2:=ca) (c3:=1) (c4:=0) hrs hmw hr (show I64 0 from by unfold I64;omega) (Frz.typed anN.ok hE.rb.fb (by decide) (by omega)) (dJ hin hfl (by decide) (by omega) (by omega)) (Frz.typed anN.ok hE.rb.fa (by decide) (by omega)) (dJ hown (by simpa [aP,cI] using jH WE (TS jf w.heap.size WE) [(x:Int)] (fun n hn=>by simp only[aql] at hn;subst hn;exact In.i64 hG ⟨by omega,by omega⟩)) (by decide) (ag _) (by omega)) Sl.nil;simp only[hlq] at hfin;exact bodyPost_ret (dV hfin.1 rfl rfl) rfl hfin.2
 have e0:((y:Int)==0)=false:=by simp;omega
 clear y0;go_wp2_with fail
 obtain⟨Wx,gp⟩:∃Wx,w3=Wx:=⟨_,rfl⟩
 subst gp;have hpk:∃(back:List (List Int)) (Ab:Option Addr) (cb:Nat) (ahead:List (List Int)) (Aa:Option Addr) (ca:Nat) (bG hib bH hia:Nat),RB w m fs lp w3.heap.size W0.heap.size w1.heap.size As s (.slice (some ⟨w1.heap.size,0,none⟩) 1 1) 1 [.slice As s.length cs] bG hib Ab cb back bH hia Aa ca ahead (.slice none 0 0) (.slice none 0 0) w3/\anW G 2 back/\anW G 2 ahead/\(w1.heap.size<bG\/hib<=w1.heap.size)/\(w1.heap.size<bH\/hia<=w1.heap.size):=⟨[],none,0,[],none,0,W0.heap.size,0,W0.heap.size,0,⟨HR3.out,F3.out,O3.out,Sl.nil,Sl.nil,by omega,by omega,by omega,by omega,by omega,by omega,by omega,ag _⟩,.nil _ _,.nil _ _,.inr (nz _),.inr (nz _)⟩
 have hzx:w1.heap.size+1<=w3.heap.size:=by omega
 obtain⟨Wx,gp⟩:∃Wx,w3=Wx:=⟨_,rfl⟩
 rw[gp] at hpk hzx ⊢;clear HR3 F3 O3 z3 gp;obtain⟨back,Ab,cb,ahead,Aa,ca,bG,hib,bH,hia,hrb,hB,hA,hbb,hba⟩:=hpk;have HX:=hd0 hrb;have eH:=hd0 hB;have rG:=hd0 hA;clear hrb hB hA;have x1:Wx.cell? ⟨w.heap.size+1,1,none⟩=some (.slice (some ⟨w1.heap.size,0,none⟩) 1 1):=HX.out.rs.cell 1;have jk:w.heap.size+1≠m:=by omega
 have bU:True:=trivial
 first|(go_region_with (go_at_call 151;have _t:=bU;refine(iD _ m fs lp G Ag cg (by exact HX.out.rs.mkr) HF.out h1 hG).mono ?_;rintro e wq ⟨q,Aq,cq,hq,rfl,xA,Ci,hvq⟩;have Oz:=dK hvq jk x1;have xy:=HX.out.drew.next hmw Ci hvq;have zq:=hvq.size;have zq':Wx.heap.size<=wq.heap.size:=zq;have zrq:=xy.rs.var.lt;obtain⟨A5,c5,w9,cells,hrun,x9,y9,h9⟩:=xy.app (cq:=cq) hmw ⟨ag _,hbb,hba⟩ (Frz.of anN.ok xA) (show w1.heap.size<Wx.heap.size by omega) (ag _) (show w.heap.size+2<=Wx.heap.size by omega) (by have:=hq.few;omega);have mZ:=hd0 h9;have HQ:=hd0 hq;clear _t bU xy h9 Ci hvq xA hq))|fail
 all_goals
  obtain⟨Wy,CV⟩:∃Wy,w9.setCell ⟨w.heap.size+1,1,none⟩ (.slice A5 (1+q.length) c5)=Wy:=⟨_,rfl⟩
  rw[CV] at mZ ⊢;clear CV hrun x9 y9 Oz x1;go_wp2_with fail
  refine(aC Wy m fs lp G mZ.out.rb.rs.mkr h1 (by omega)).mono ?_;rintro e wb ⟨x,hx,rfl,hmb,hvb⟩;have Hf:=hd0 (mZ.out.next hmw hmb hvb);have zb:=hvb.size;clear hmb hvb;have v3:wb.cell? ⟨w.heap.size+1,3,none⟩=some (.slice none 0 0):=Hf.out.rb.rs.cell 3;have y3:=Hf.out.rb.rs.var.frozen 3;have zrb:=Hf.out.rb.rs.var.lt
  go_upto_region 33 with fail
  have hb0:Below wb.heap.size (wb.setCell ⟨w.heap.size+1,3,none⟩ (.slice (some ⟨wb.heap.size,0,none⟩) 1 1)) ((wb.setCell ⟨w.heap.size+1,3,none⟩ (.slice (some ⟨wb.heap.size,0,none⟩) 1 1)).alloc (.cells #[.int .i64 x] aY)):=by have:=(aqk (wb.setCell ⟨w.heap.size+1,3,none⟩ (.slice (some ⟨wb.heap.size,0,none⟩) 1 1)).heap.size (wb.setCell ⟨w.heap.size+1,3,none⟩ (.slice (some ⟨wb.heap.size,0,none⟩) 1 1))).alloc (ag _) (.cells #[.int .i64 x] aY);simpa using this
  have hput:=Hf.out.aoX hmw (.slice (some ⟨wb.heap.size,0,none⟩) 1 1);have hE:=hput.below (w2:=(wb.setCell ⟨w.heap.size+1,3,none⟩ (.slice (some ⟨wb.heap.size,0,none⟩) 1 1)).alloc (.cells #[.int .i64 x] aY)) (by simpa using hb0);have hown:=yE (wb.setCell ⟨w.heap.size+1,3,none⟩ (.slice (some ⟨wb.heap.size,0,none⟩) 1 1)) w.heap.size aY 1 1 #[.int .i64 x] (by simp;omega) rfl (by omega);simp only[World.size_setCell] at hown;obtain⟨WE,XX⟩:∃WE,(wb.setCell ⟨w.heap.size+1,3,none⟩ (.slice (some ⟨wb.heap.size,0,none⟩) 1 1)).alloc (.cells #[.int .i64 x] aY)=WE:=⟨_,rfl⟩
  rw[XX] at hE hown ⊢;clear hb0 hput XX;have v0:WE.cell? ⟨w.heap.size+1,0,none⟩=some (.slice Ab back.length cb):=hE.rb.rs.cell 0;have v1:WE.cell? ⟨w.heap.size+1,1,none⟩=some (.slice A5 (1+q.length) c5):=hE.rb.rs.cell 1;have v2:WE.cell? ⟨w.heap.size+1,2,none⟩=some (.slice Aa ahead.length ca):=hE.rb.rs.cell 2;have v3:WE.cell? ⟨w.heap.size+1,3,none⟩=some (.slice (some ⟨wb.heap.size,0,none⟩) 1 1):=hE.rb.rs.cell 3;have v4:WE.cell? ⟨w.heap.size+1,4,none⟩=some (.slice none 0 0):=hE.rb.rs.cell 4;have v5:WE.cell? ⟨w.heap.size+1,5,none⟩=some (.int .i64 0):=hE.rb.rs.cell 5;have r0:WE.cell? ⟨w.heap.size,0,none⟩=some (.slice none 0 0):=hE.rb.rs.res.cell 0;have r1:WE.cell? ⟨w.heap.size,1,none⟩=some (.slice none 0 0):=hE.rb.rs.res.cell 1;have r2:WE.cell? ⟨w.heap.size,2,none⟩=some (.slice none 0 0):=hE.rb.rs.res.cell 2;have r3:WE.cell? ⟨w.heap.size,3,none⟩=some (.slice none 0 0):=hE.rb.rs.res.cell 3;have r4:WE.cell? ⟨w.heap.size,4,none⟩=some (.slice none 0 0):=hE.rb.rs.res.cell 4;have r5:WE.cell? ⟨w.heap.size,5,none⟩=some (.int .i64 0):=hE.rb.rs.res.cell 5;have f0:=hE.rb.rs.res.frozen 0;have f1:=hE.rb.rs.res.frozen 1;have f2:=hE.rb.rs.res.frozen 2;have f3:=hE.rb.rs.res.frozen 3;have f4:=hE.rb.rs.res.frozen 4;have f5:=hE.rb.rs.res.frozen 5;go_wp2_with fail
  obtain⟨b0,b1,b2,b3,b4,b5,b6,b7⟩:=hE.rb.bnd;have bq:=hE.bq;have hr:aob G 3 ⟨back,[s]++q,ahead,[(x:Int)],[],0⟩:=aob.mk' (eH.out.mono (by omega)) ((anW.one HS.out).app HQ.out) (rG.out.mono (by omega)) ⟨fun n hn=>by simp only[aql] at hn;subst hn;exact⟨by omega,by omega⟩,by simp⟩ (by simp) (show N9 0 from by unfold N9;omega) (fun h=>absurd h (by decide)) (fun h=>absurd h (by decide)) (fun _=>rfl) (fun _=>rfl);have hfl:Fl anN 1 WE (TS jf w.heap.size WE) ([.slice As s.length cs]++cells) ([s]++q):=(Fl.one (R:=anN) ⟨As,cs,rfl,Frz.typed anO.ok hE.rb.set (by decide) (by omega)⟩ rfl).append (hE.fq.mono anN.ok (TR.ts (by decide) (by omega)));have hlq:([s]++q).length=1+q.length:=by simp;omega
  have hrs:=hE.rb.rs;have hin:=hE.rb.inn;rw[<-hlq] at hrs hin;have hfin:=jJ (G:=G) (kind:=3) (r:=⟨back,[s]++q,ahead,[(x:Int)],[],0⟩) (A0:=Ab) (A1:=A5) (A2:=Aa) (A3:=some ⟨wb.heap.size,0,none⟩) (A4:=none) (c0:=cb) (c1:=c5) (c2:=ca) (c3:=1) (c4:=0) hrs hmw hr (show I64 0 from by unfold I64;omega) (Frz.typed anN.ok hE.rb.fb (by decide) (by omega)) (dJ hin hfl (by decide) (by omega) (by omega)) (Frz.typed anN.ok hE.rb.fa (by decide) (by omega)) (dJ hown (by simpa [aP,cI] using jH WE (TS jf w.heap.size WE) [(x:Int)] (fun n hn=>by simp only[aql] at hn;subst hn;exact In.i64 hG ⟨by omega,by omega⟩)) (by decide) (ag _) (by omega)) Sl.nil;simp only[hlq] at hfin;exact bodyPost_ret (dV hfin.1 rfl rfl) rfl hfin.2
end
section
open Go.RowKit Go.Sort
theorem Ec (l:List Int):aP l=l.map (Value.int .i64):=by
 induction l with
 |nil=>rfl
 |cons x r ih=>rw[abw,ih];rfl
theorem adB {w:World}{base g n c m:Nat}{e:TypeId}{xs ys:List Value}(h:w.ownsRow base e 1 (.slice (some ⟨g,0,none⟩) n c) n (xs++ys))(hm:xs.length=m)(hle:m<=n):w.ownsRow base e 1 (.slice (some ⟨g,0,none⟩) m c) m xs:=by
 rcases h.2 with⟨h0,_⟩|⟨g',cap',cur,hv,hg,hh,hn,hcap,hs,htk⟩
 ·cases h0
 cases hv;refine⟨by omega,.inr ⟨g,c,cur,rfl,hg,hh,by omega,hcap,hs,?_⟩⟩;have h9:(cur.toList.take (n*1)).take m=(xs++ys).take m:=by rw[htk]
 rw[List.take_take,Nat.min_eq_left (by omega),List.take_append_of_le_length (by omega),aqE (l:=xs) (by omega)] at h9;rw[Nat.mul_one];exact h9
theorem WL (w:World)(A:Option Addr)(n c:Nat)(l:List Int){Bd:Nat}(hr:Rd w Bd A n 1 (aP l))(hn:n<=1000000000):
  Calls Tryz.prog 173 #[.slice A n c] w fun e w'=>∃A' c',e= .returned (.slice A' (setOf l).length c')/\w'.ownsRow w.heap.size 3 1 (.slice A' (setOf l).length c') (setOf l).length (aP (setOf l))/\Below w.heap.size w w':=by
 have hl:l.length=n:=by have:=hr.1;simpa [Ec] using this
 rcases Nat.eq_zero_or_pos n with h0|h0
 ·subst h0
  obtain rfl:l=[]:=List.eq_nil_of_length_eq_zero hl;have hz:Hid (setOf []=[]):=rfl;have hcl:Hid (Calls Tryz.prog 143 #[.slice A 0 c] w fun e w'=>∃A' c',e= .returned (.slice A' 0 c')/\w'.ownsRow w.heap.size 3 1 (.slice A' 0 c') 0 []/\Below w.heap.size w w'):=by
   show Calls _ _ _ _ _;cases A with
   |none=>refine(Tryz.slices_Clone_int_nil 0 c w).mono ?_;rintro e w' ⟨rfl,rfl⟩;exact⟨none,0,rfl,World.ownsRow_nil _ _ _ _,aqk _ _⟩
   |some a=>refine(Tryz.slices_Clone_int_zero a c w).mono ?_;rintro e w' ⟨v,rfl,ho,-,hb⟩;obtain⟨A',c',rfl⟩:=gV ho;exact⟨A',c',rfl,ho,hb⟩
  clear hr hn hl;go_enter Tryz.func173,Tryz.ntmps173
  go_wp2_with fail
  refine hcl.out.mono ?_;rintro e w1 ⟨A',c',rfl,ho,hb⟩;go_wp2_with fail
  refine(Tryz.slices_Sort_int_none A' c' w1).mono ?_;rintro e w2 ⟨rfl,rfl⟩;go_wp2_with fail
  refine(Tryz.slices_Compact_int_empty A' c' _).mono ?_;rintro e w3 ⟨rfl,rfl⟩;go_wp2;go_ret
  rw[hz.out];exact⟨A',c',rfl,ho,hb⟩
 obtain⟨b,o,rfl,hbk,agy⟩:=hr.2 h0;have hcl:=hd0 (Tryz.slices_Clone_int b o n c l w (by omega) (by omega) (fun j hj=>by
  refine agy j _ ?_;rw[Ec,aqO,aqn hj];simp[List.getD,aqn hj]))
 subst hl;rw[aqr] at hcl;have hn':=hn;clear hr hbk agy;go_enter Tryz.func173,Tryz.ntmps173
 go_wp2_with fail
 refine hcl.out.mono ?_;rintro e w1 ⟨v,rfl,ho,hne,hb⟩;obtain⟨g,cap,cur,rfl,hg,hh,hnc,hcap,hs,htk⟩:∃g cap cur,v= .slice (some ⟨g,0,none⟩) l.length cap/\w.heap.size<=g/\w1.heap[g]? =some (.cells cur 3 (0,0))/\l.length<=cap/\cap<=maxLen/\cur.size=cap*1/\cur.toList.take l.length=l.map (Value.int .i64):=by
  rcases ho.2 with⟨_,h⟩|⟨g,cap,cur,hv,hg,hh,hnc,hcap,hs,htk⟩
  ·omega
  exact⟨g,cap,cur,hv,hg,hh,hnc,hcap,hs,by rw[Nat.mul_one] at htk;exact htk⟩
 have hgl:g<w1.heap.size:=(aqo.1 hh).1;have hH:=holds_of_blockI hh htk;have hsort:=hd0 (Tryz.slices_Sort_int g 0 cap l w1 hH hgl (by omega));clear hne ho;go_wp2_with fail
 refine hsort.out.mono ?_;rintro e w2 ⟨rfl,q,os,hw2⟩;have hml:(l.mergeSort fun x y=>decide (x<=y)).length=l.length:=List.length_mergeSort _;have ho2:=ownsRow_sortedI (base:=w.heap.size) (n:=q) (os:=os) hml hg hh hnc hcap hs;have hg2:=grownBy_sortedI (w:=w1) (g:=g) (n:=q) (os:=os) (l.mergeSort fun x y=>decide (x<=y)).toArray;rw[<-hw2] at ho2 hg2;have hcs:=MZ l;generalize (l.mergeSort fun x y=>decide (x<=y))=ms at*
 obtain⟨Fh,hh2,hs2,akk⟩:∃Fh,w2.heap[g]? =some (.cells Fh 3 (0,0))/\Fh.size=cap*1/\Fh.toList.take ms.length=ms.map (Value.int .i64):=by
  rcases ho2.2 with⟨h,_⟩|⟨g',cap',cur',hv,-,hh',-,-,hs',afn⟩
  ·cases h
  cases hv;exact⟨cur',hh',hs',by rw[Nat.mul_one] at afn;rw[hml];exact afn⟩
 have hcomp:=Tryz.slices_Compact_int g 0 cap ms w2 (holds_of_blockI hh2 akk) (by omega) (by omega);rw[hcs,hml] at hcomp;have ah4:=hd0 hcomp;have hle:=KN l;clear hsort hcl hcomp hw2 hh htk hH;go_wp2_with fail
 refine ah4.out.mono ?_;rintro e w3 ⟨rfl,q3,hw3⟩;have hl3:(setOf l++List.replicate (l.length - (setOf l).length) 0).length=l.length:=by simp;omega
 have ho3:=ownsRow_sortedI (base:=w.heap.size) (n:=q3) (os:= #[]) hl3 hg hh2 hnc hcap hs2;have hg3:=grownBy_sortedI (w:=w2) (g:=g) (n:=q3) (os:= #[]) (setOf l++List.replicate (l.length - (setOf l).length) 0).toArray;rw[grow_empty,<-hw3] at ho3 hg3;rw[aqY,<-Ec] at ho3;have Ho:=hd0 (adB (m:=(setOf l).length) ho3 (by simp[Ec]) hle);have Hb:=hd0 ((hb.grown hg2 hb.size (fun k e=>by cases e;exact hg)).grown hg3 (nt hb.size hg2.size) (fun k e=>by cases e;exact hg));clear ho3 hg3 hw3 ho2 hg2;go_wp2;go_ret
 exact⟨_,_,rfl,Ho.out,Hb.out⟩
end
section
open Go.RowKit
def aV (gl:Gl)(cls:List (B×List Int))(er:Int)(l:List (List B)):Int×List (List Int):=l.foldl (fun q x=>((bu gl cls q.1 [] x).1,q.2++[(bu gl cls q.1 [] x).2])) (er,[])
theorem PX (gl:Gl)(cls:List (B×List Int))(er:Int)(l:List (List B))(x:List B):aV gl cls er (l++[x])=((bu gl cls (aV gl cls er l).1 [] x).1,(aV gl cls er l).2++[(bu gl cls (aV gl cls er l).1 [] x).2]):=by unfold aV;rw[aq7];rfl
theorem yB (gl:Gl)(cls:List (B×List Int))(er:Int)(l:List (List B)):(aV gl cls er l).2.length=l.length:=by
 suffices h:∀q:Int×List (List Int),(l.foldl (fun q x=>((bu gl cls q.1 [] x).1,q.2++[(bu gl cls q.1 [] x).2])) q).2.length=q.2.length+l.length by have:=h (er,[]);simpa [aV] using this
 induction l with
 |nil=>intro q;rfl
 |cons x r ih=>intro q;rw[aqN,ih];simp;omega
def IB (base:Nat)(w:World):Bs:=fun g=>base<=g/\∃cur,Bk w g 3 cur
theorem IB.keep {base:Nat}{w w':World}{row:Option Nat}(hg:w.grownBy w' row)(hr:∀g,row=some g->∃t cur,Bk w g t cur/\t≠3):Same (IB base w) w w'/\∀g,IB base w g->IB base w' g:=by
 have h:Same (IB base w) w w':=fun b ⟨_,cur,hb⟩=>hg.block b hb.lt fun e=>by
  obtain⟨t,cur',h1,h2⟩:=hr b e.symm;exact h2 (bY h1 hb).1
 exact⟨h,fun g hg'=>⟨hg'.1,by obtain⟨cur,hb⟩:=hg'.2;exact⟨cur,hb.keep (h g hg')⟩⟩⟩
theorem Fl.ib {base:Nat}{w w':World}{row:Option Nat}{cs:List Value}{xs:List (List Int)}(h:Fl anN 1 w (IB base w) cs xs)(hg:w.grownBy w' row)(hr:∀g,row=some g->∃t cur,Bk w g t cur/\t≠3):Fl anN 1 w' (IB base w') cs xs:=(h.keep anN.ok (IB.keep hg hr).1).mono anN.ok (IB.keep hg hr).2
theorem TZ {w:World}{base b2:Nat}{l:List Int}{A:Option Addr}{c:Nat}(ho:w.ownsRow b2 3 1 (.slice A l.length c) l.length (aP l))(hI:∀x∈l,I64 x)(hb:base<=b2):anN w (IB base w) [.slice A l.length c] l:=by refine⟨A,c,rfl,Sl.aow ho (BV w (IB base w) l hI) (fun g hg=> ?_) (by decide)⟩;obtain⟨cur,hk⟩:=bC ho hg;exact⟨nt hb (ho.lt g hg).1,cur,hk⟩
def aoZ (w:World)(rb p:Nat)(er:Int)(n:Nat)(rows:List (List Int))(v:Value)(wr:World):Prop:=∃A c hs,v= .slice A n c/\wr.ownsRow w.heap.size 22 1 (.slice A n c) n hs/\Fl anN 1 wr (IB w.heap.size wr) hs rows/\Rdr wr rb p er/\w.grownBy wr (some rb)
theorem aoZ.next {w wr w1 w2:World}{rb p:Nat}{er er':Int}{n:Nat}{rows:List (List Int)}{l:List Int}{A A5 A6:Option Addr}{c c5 c6:Nat}{hs:List Value}(h1:wr.ownsRow w.heap.size 22 1 (.slice A n c) n hs)(h2:Fl anN 1 wr (IB w.heap.size wr) hs rows)(h3:Rdr wr rb p er)(h4:w.grownBy wr (some rb))
  (k1:w1.ownsRow wr.heap.size 3 1 (.slice A5 l.length c5) l.length (aP l)) (hI:∀x∈l,I64 x) (k2:Rdr w1 rb p er') (k3:wr.grownBy w1 (some rb)) (m1:w2.ownsRow w.heap.size 22 1 (.slice A6 (n+1) c6) (n+1) (hs++[.slice A5 l.length c5])) (m2:w1.grownBy w2 (Value.slice A n c).ownBlock):
  aoZ w rb p er' (n+1) (rows++[l]) (.slice A6 (n+1) c6) w2:=by
 have o1:=h1.kept k3 (bZ h1 h3 (by decide));have hne:∀g,(Value.slice A n c).ownBlock=some g->∃t cur,Bk w1 g t cur/\t≠3:=fun g e=>by
  obtain⟨cur,hk⟩:=bC o1 e;exact⟨_,cur,hk,by decide⟩
 have f1:=(h2.ib k3 (fun g e=>by cases e;exact⟨_,_,h3,by decide⟩)).ib m2 hne;have k1':=k1.kept m2 (own_ne k1 o1 (by decide));refine⟨A6,c6,_,rfl,m1,f1.snoc (R:=anN) (TZ k1' hI h4.size) rfl,Bk.grown k2 m2 o1 (by decide),KE (cZ h4 k3) m2 (fun g e=>(h1.lt g e).1)⟩
theorem adZ {w wr:World}{rb p:Nat}{er:Int}{A:Option Addr}{n k:Nat}{hs:List Value}{rows:List (List P3)}(hr:RdT w 119 A n 1 hs)(hin:RowsIn dX w hs rows)(hR:Rdr w rb p er)(hg:w.grownBy wr (some rb))(hk:k<n):
  ∃b o r Ar kr cr,A=some ⟨b,o,none⟩/\Hid (rows[k]? =some r)/\b<wr.heap.size/\wr.cell? ⟨b,o+k,none⟩=some (.slice Ar kr cr)/\RdT wr dX Ar kr 3 (dD r)/\kr=r.length:=by
 obtain⟨b,o,cur,e,hb,hc⟩:=hr.2 (by omega);have hl:hs.length=n:=by have:=hr.1;omega
 have hk2:k<rows.length:=by rw[<-hin.1,hl];exact hk
 obtain⟨Ar,kr,cr,g1,g2,-⟩:=hin.2 k _ (aqn hk2);have hb2:Bk wr b 119 cur:=Bk.kept2 hg hb (fun e'=>by
  subst e';have:=(bY hb hR).1
  revert this
  decide)
 exact⟨b,o,rows[k],Ar,kr,cr,e,aqn hk2,hb2.lt,(hb2.cell _).trans (hc k _ g1),J4 g2 hR hg,g2.rd.aoE.symm⟩
def aX (rows:List (List P3)):List (List B):=rows.map ah
theorem VC {rows:List (List P3)}{k:Nat}{r:List P3}(h:rows[k]? =some r):(aX rows).take (k+1)=(aX rows).take k++[ah r]:=by unfold aX;rw[aq1,aqO,h];rfl
theorem PAt.reader {w w':World}{p gm cm rb:Nat}{err:Int}{gl:Gl}{cls:List (B×List Int)}(h:PAt w p gm cm gl cls)(hr:Rdr w rb p err)(hg:w.grownBy w' (some rb)):PAt w' p gm cm gl cls:=h.grown hr hg
theorem rows_ok (w:World)(rb p gm cm:Nat)(gl:Gl)(cls:List (B×List Int))(err:Int)(A:Option Addr)(n c:Nat)(rows:List (List P3))(hs:List Value)(hR:Rdr w rb p err)(hP:PAt w p gm cm gl cls)(hr:RdT w 119 A n 1 hs)(hin:RowsIn dX w hs rows)(hn:n<=1000000000)
  (hl:∀r∈rows,r.length<=1000000000) (hI:∀er l,∀x∈(bu gl cls er [] l).2,I64 x):
  Calls Tryz.prog 136 #[.pointer (some ⟨rb,0,none⟩),.slice A n c] w fun e w'=>∃v,e= .returned v/\aoZ w rb p (aV gl cls err (aX rows)).1 n (aV gl cls err (aX rows)).2 v w':=by
 have hlen:hs.length=n:=by have:=hr.1;omega
 have hrl:=hd0 (show rows.length=n by rw[<-hin.1];exact hlen);have HR:=hd0 hR;have HP:=hd0 hP;have HW:=hd0 hr;have XY:=hd0 hin;have HL:=hd0 hl;have HI:=hd0 hI;clear hR hP hr hin hl hI hlen;go_enter Tryz.func136,Tryz.ntmps136
 go_wp2;go_loopw [5,10] (fun v i wr=>∃k:Nat,k<=n/\i= .int .i64 k/\aoZ w rb p (aV gl cls err ((aX rows).take k)).1 k (aV gl cls err ((aX rows).take k)).2 v wr) (fun _ i _=>n - (intOf i).toNat)
 case atStart=>exact⟨0,nz _,rfl,none,0,[],rfl,World.ownsRow_nil _ _ _ _,Fl.nil,HR.out,World.grownBy.refl _ _⟩
 case round=>
  obtain⟨k,hk,rfl,A4,c4,hs4,rfl,ho,hf,hr,hg⟩:=hrel;by_cases hlt:k<n
  ·obtain⟨b,o,r,Ar,kr,cr,rfl,hp,hbw,q1,hrd,hkr⟩:=adZ HW.out XY.out HR.out hg hlt;have abK:kr<=1000000000:=by rw[hkr];exact HL.out r (aqt hp.out)
   have hsn:=VC hp.out;have sK:=hd0 (PX gl cls err ((aX rows).take k) (ah r));rw[<-hsn] at sK;have hr0:=hd0 hr;have hf0:=hd0 hf;have HG:=hd0 hg;have UZ:=HI.out (aV gl cls err ((aX rows).take k)).1 (ah r);have hcall:=hd0 (Y9 wr rb p gm cm gl cls (aV gl cls err ((aX rows).take k)).1 Ar kr cr r hr (HP.out.reader HR.out hg) hrd abK);have hsz:=hg.size;generalize (aV gl cls err ((aX rows).take k)).1=er at*
   generalize (aV gl cls err ((aX rows).take k)).2=acc at*
   generalize hq:bu gl cls er [] (ah r)=qq at*
   obtain⟨Bg,res⟩:=qq;have aie:Hid (aV gl cls err ((aX rows).take (k+1))=(Bg,acc++[res])):=by show _=_;rw[sK.out]
   have Pj:=hd0 UZ;clear hp hsn sK hr hrd hkr hf hg UZ hq;go_wp2_with (first
    |(go_at_call 128;refine hcall.out.mono ?_;rintro e w1 ⟨v,rfl,A5,c5,rfl,AV,pK,hg5⟩;have z1:=hg5.size)
    |(at_builtin;refine iQ GX rfl (.tmp 14) (.tmp 18) rfl w1 _ rfl w.heap.size k c4 A4 hs4 #[.slice A5 res.length c5] rfl rfl rfl (ho.kept hg5 (bZ ho hr0.out (by decide))) (by simp[Value.oneCell']) (by omega) (by omega) ?_;intro A6 c6 w2 ho2 hg3 _))
   go_roundw
   case rel=>exact⟨k+1,by omega,by simp,by rw[aie.out];exact aoZ.next ho hf0.out hr0.out HG.out AV Pj.out pK hg5 ho2 hg3⟩
   case measure=>simp[intOf];omega
  obtain rfl:k=n:=by omega
  have ht:Hid ((aX rows).take k=aX rows):=by show _=_;exact aqE (by rw[aX,aqs,hrl.out];exact ag _)
  rw[ht.out] at hf hr;go_wp2;go_ret
  exact⟨_,rfl,A4,c4,hs4,rfl,ho,hf,hr,hg⟩
def aoY (w:World)(n:Nat)(rows:List (List Int))(v:Value)(wr:World):Prop:=∃A c hs,v= .slice A n c/\wr.ownsRow w.heap.size 22 1 (.slice A n c) n hs/\Fl anN 1 wr (IB w.heap.size wr) hs rows/\Below w.heap.size w wr
theorem aoY.next {w wr w1 w2:World}{n:Nat}{rows:List (List Int)}{l:List Int}{A A5 A6:Option Addr}{c c5 c6:Nat}{hs:List Value}(h1:wr.ownsRow w.heap.size 22 1 (.slice A n c) n hs)(h2:Fl anN 1 wr (IB w.heap.size wr) hs rows)(h4:Below w.heap.size w wr)
  (k1:w1.ownsRow wr.heap.size 3 1 (.slice A5 l.length c5) l.length (aP l)) (hI:∀x∈l,I64 x) (k3:Below wr.heap.size wr w1) (m1:w2.ownsRow w.heap.size 22 1 (.slice A6 (n+1) c6) (n+1) (hs++[.slice A5 l.length c5])) (m2:w1.grownBy w2 (Value.slice A n c).ownBlock):
  aoY w (n+1) (rows++[l]) (.slice A6 (n+1) c6) w2:=by
 have o1:=own_below h1 k3;have hne:∀g,(Value.slice A n c).ownBlock=some g->∃t cur,Bk w1 g t cur/\t≠3:=fun g e=>by
  obtain⟨cur,hk⟩:=bC o1 e;exact⟨_,cur,hk,by decide⟩
 have f1:=(h2.ib (aH k3 none) (fun g e=>by cases e)).ib m2 hne;have k1':=k1.kept m2 (own_ne k1 o1 (by decide));exact⟨A6,c6,_,rfl,m1,f1.snoc (R:=anN) (TZ k1' hI h4.size) rfl,(h4.trans (k3.mono h4.size)).grown m2 (nt h4.size k3.size) (fun g e=>(h1.lt g e).1)⟩
theorem UE {w:World}{S:Bs}{hs:List Value}{rows:List (List Int)}(h:Fl anN 1 w S hs rows){k:Nat}{r:List Int}(hk:rows[k]? =some r):∃A c,hs[k]? =some (.slice A r.length c)/\Sl anO 1 w S A r:=by obtain⟨cs,⟨A,c,rfl,h1⟩,-,h3⟩:=h.2 k r hk;have:=h3 0 _ rfl;rw[Nat.mul_one,Nat.add_zero] at this;exact⟨A,c,this,h1⟩
theorem Xy (w:World)(A:Option Addr)(n c:Nat)(rows:List (List Int))(hs:List Value){S:Bs}(hr:RdT w 22 A n 1 hs)(hf:Fl anN 1 w S hs rows)(hS:∀b,S b->b<w.heap.size)(hn:n<=1000000000)(hl:∀r∈rows,r.length<=1000000000)(hI:∀r∈rows,∀x∈r,I64 x):
  Calls Tryz.prog 137 #[.slice A n c] w fun e w'=>∃v,e= .returned v/\aoY w n (rows.map setOf) v w':=by
 have hrl:rows.length=n:=by have h1:=hr.1;have h2:=hf.1;omega
 have HW:=hd0 hr;have HF:=hd0 hf;have HS:=hd0 hS;have HL:=hd0 hl;have HI:=hd0 hI;have uy:=hd0 hrl;clear hr hf hS hl hI hrl;go_enter Tryz.func137,Tryz.ntmps137
 go_wp2;go_loopw [3,8] (fun v i wr=>∃k:Nat,k<=n/\i= .int .i64 k/\aoY w k ((rows.map setOf).take k) v wr) (fun _ i _=>n - (intOf i).toNat)
 case atStart=>exact⟨0,nz _,rfl,none,0,[],rfl,World.ownsRow_nil _ _ _ _,Fl.nil,aqk _ _⟩
 case round=>
  obtain⟨k,hk,rfl,A4,c4,hs4,rfl,ho,hf4,hb4⟩:=hrel;by_cases hlt:k<n
  ·obtain⟨r,hrk⟩:∃r,rows[k]? =some r:=⟨_,aqn (by rw[uy.out];exact hlt)⟩
   obtain⟨Ar,cr,hhk,hsl⟩:=UE HF.out hrk;obtain⟨b,o,cur,rfl,hb,hcc⟩:=HW.out.2 (by omega);have q1:wr.cell? ⟨b,o+k,none⟩=some (.slice Ar r.length cr):=((af hb4).1 _ _ hb.lt).trans ((hb.cell _).trans (hcc k _ hhk));have hbw:b<wr.heap.size:=aqu hb.lt hb4.size;have hrm:=aqt hrk;have abK:=HL.out r hrm;have hrd:Rd wr w.heap.size Ar r.length 1 (aP r):=(WW hsl HS.out).below hb4 (ag _);have hcall:=hd0 (WL wr Ar r.length cr r hrd abK);have hsn:Hid ((rows.map setOf).take (k+1)=(rows.map setOf).take k++[setOf r]):=by show _=_;rw[aq1,aqO,hrk];rfl
   have Pj:Hid (∀x∈setOf r,I64 x):=fun x hx=>HI.out r hrm x ((Dc x r).1 hx)
   have hsz:=hb4.size;have Hf4:=hd0 hf4;have Hb4:=hd0 hb4;generalize (rows.map setOf).take k=acc at*
   clear hrk hhk hsl hb hcc hrm hrd hf4 hb4;go_wp2_with (first
    |(go_at_call 173;refine hcall.out.mono ?_;rintro e w1 ⟨A5,c5,rfl,AV,hb5⟩;have z1:=hb5.size)
    |(at_builtin;refine iQ GX rfl (.tmp 12) (.tmp 15) rfl w1 _ rfl w.heap.size k c4 A4 hs4 #[.slice A5 (setOf r).length c5] rfl rfl rfl (own_below ho hb5) (by simp[Value.oneCell']) (by omega) (by omega) ?_;intro A6 c6 w2 ho2 hg3 _))
   go_roundw
   case rel=>exact⟨k+1,by omega,by simp,by rw[hsn.out];exact aoY.next ho Hf4.out Hb4.out AV Pj.out hb5 ho2 hg3⟩
   case measure=>simp[intOf];omega
  obtain rfl:k=n:=by omega
  have ht:Hid ((rows.map setOf).take k=rows.map setOf):=by show _=_;exact aqE (by rw[aqs,uy.out];exact ag _)
  rw[ht.out] at hf4;go_wp2;go_ret
  exact⟨_,rfl,A4,c4,hs4,rfl,ho,hf4,hb4⟩
theorem aau (n:Nat):(n==1)=((n:Int)==1):=by rw[Bool.eq_iff_iff];simp;omega
theorem ZW (n:Nat):(n==0)=((n:Int)==0):=by rw[Bool.eq_iff_iff];simp
theorem Xw (w:World)(kind:Int)(A:Option Addr)(n c:Nat)(ws:List P3)(hr:RdT w dX A n 3 (dD ws))(hl:∀x∈ws,x.2.2.length<=100000000)(hn:n<=1000000000):
  Calls Tryz.prog 135 #[.int .i64 kind,.slice A n c] w fun e w'=>e= .returned (.bool (dZ kind (ah ws)))/\Below w.heap.size w w':=by
 have hlen:(ah ws).length=n:=by rw[iq];exact hr.rd.aoE
 have hcall:=hd0 (TB w A n c ws hr hl hn);have hall:Hid (ws.all (fun x=>DF x.2.2)=yN (ah ws)):=by show _=_;rw[AB];rfl
 by_cases h4:kind=4
 ·have HR:Hid (dZ kind (ah ws)=yN (ah ws)):=by show _=_;unfold dZ;rw[if_pos h4]
  subst h4;clear hr hl hn hlen;go_enter Tryz.func135,Tryz.ntmps135
  go_wp2_with fail
  refine hcall.out.mono ?_;rintro e w1 ⟨rfl,hb⟩;go_wp2;go_ret
  rw[HR.out,hall.out];exact⟨rfl,hb⟩
 by_cases h6:kind=6
 ·have HR:Hid (dZ kind (ah ws)=((n:Int)==1)):=by show _=_;unfold dZ;rw[if_neg h4,if_pos h6,hlen,aau]
  subst h6;clear hr hl hn hlen hcall h4;go_enter Tryz.func135,Tryz.ntmps135
  go_wp2;go_ret
  rw[HR.out];exact⟨rfl,aqk _ _⟩
 by_cases h7:kind=7\/kind=8
 ·have HR:Hid (dZ kind (ah ws)=((n:Int)==0)):=by show _=_;unfold dZ;rw[if_neg h4,if_neg h6,if_pos h7,hlen,ZW]
  clear hr hl hn hlen hcall h4 h6;rcases h7 with rfl|rfl
  all_goals
   go_enter Tryz.func135,Tryz.ntmps135
   go_wp2;go_ret
   rw[HR.out];exact⟨rfl,aqk _ _⟩
 have HR:Hid (dZ kind (ah ws)=true):=by show _=_;unfold dZ;rw[if_neg h4,if_neg h6,if_neg h7]
 have e4:(kind==4)=false:=by simpa using h4
 have e6:(kind==6)=false:=by simpa using h6
 have e7:(kind==7)=false:=by simp;omega
 have e8:(kind==8)=false:=by simp;omega
 clear hr hl hn hlen hcall h4 h6 h7;go_enter Tryz.func135,Tryz.ntmps135
 go_wp2;go_ret
 rw[HR.out];exact⟨rfl,aqk _ _⟩
end
end Go.Proofs.YtkijckccfookeaaGreatDoor
