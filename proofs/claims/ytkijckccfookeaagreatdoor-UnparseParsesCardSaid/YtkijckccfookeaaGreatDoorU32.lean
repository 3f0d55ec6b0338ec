/- Lemmas. -/
import Derived.Test.YtkijckccfookeaaGreatDoorU30
import Derived.Sort.OwnSortedInts
set_option linter.unusedVariables false
set_option linter.unusedSimpArgs false
set_option maxRecDepth 100000
set_option maxHeartbeats 32000000
namespace Go.Proofs.YtkijckccfookeaaGreatDoor
section
open Go.RowKit
attribute [-go_sem] Builtin.append_
theorem Zt (w:World)(m:Nat)(fs:Nat->Value)(lp:Int)(G:Nat)(Ag:Option Addr)(cg:Nat)(Ac:Option Addr)(nc cc:Nat)(h:Mk w m fs lp)(hf:fs 1= .slice Ag G cg)(h1:1<=G)(hG:G<=1000):Calls Tryz.prog 108 #[.pointer (some ⟨m,0,none⟩),.int .i64 3,.slice Ac nc cc] w (lG w m fs lp G 3):=by
 have hmw:=h.lt;have qg:w.cell? ⟨m,3,none⟩=some (.slice Ag G cg):=by have:=h.cells.1 1 (by omega);rw[hf] at this;exact this
 have H:=hd0 h;have HF:=hd0 hf;clear h hf;go_enter Tryz.func108,Tryz.ntmps108
 go_wp2_with fail
 obtain⟨W0,hW0⟩:∃W0,(w.alloc (.cells fK dA)).alloc (.cells fK dA)=W0:=⟨_,rfl⟩
 have HR:Hid (RS w m fs lp fK W0):=by rw[<-hW0];exact hd0 (RS.begin H.out)
 have z0:W0.heap.size=w.heap.size+2:=by rw[<-hW0];simp
 unfold fK at hW0;rw[hW0];clear hW0 qg;refine(qL W0 m fs lp G Ag cg HR.out.mkr HF.out h1 hG).mono ?_;rintro e w1 ⟨s,As,cs,hs,hs1,rfl,hsl,hm1,hv1⟩;have HR1:=hd0 (HR.out.next hm1 hv1);have uO:=hd0 (Frz.of akL.ok hsl);have HS:=hd0 hs;have z1:=hv1.size;have x1:w1.cell? ⟨w.heap.size+1,1,none⟩=some (.slice none 0 0):=HR1.out.cell 1;have y1:=HR1.out.var.frozen 1;have zr:=HR1.out.var.lt;clear hsl hm1 hv1 HR hs;go_wp2_with fail
 obtain⟨W2,hW2⟩:∃W2,(w1.setCell ⟨w.heap.size+1,1,none⟩ (.slice (some ⟨w1.heap.size,0,none⟩) 1 1)).alloc (.cells #[.slice As s.length cs] tRow)=W2:=⟨_,rfl⟩
 rw[hW2];obtain⟨hR2,hF2,hO2,z2⟩:=HR1.out.in0 hmw uO.out (by omega) (by omega) hW2;have HR2:=hd0 hR2;have F2:=hd0 hF2;have O2:=hd0 hO2;clear hR2 hF2 hO2 hW2 x1 y1 HR1 uO;go_wp2_with fail
 refine(az W2 m fs lp 2 HR2.out.mkr (by omega) (by omega)).mono ?_;rintro e w3 ⟨y,hy,rfl,bn,hv3⟩;have og:=HR2.out.next bn hv3;have hF3:=Frz.next akL.ok F2.out (by omega) hv3;have hO3:=(Sp.next HR2.out.mkr hv3).own O2.out (by decide);have z3:=hv3.size;have HR3:=hd0 og;have F3:=hd0 hF3;have O3:=hd0 hO3;clear og hF3 hO3 bn hv3 HR2 F2 O2;by_cases y0:y=0
 ·have e0:((y:Int)==0)=true:=by simp;omega
  clear y0;go_wp2_with fail
  refine(iF w3 m fs lp G Ag cg HR3.out.mkr HF.out h1 hG).mono ?_;rintro e w4 ⟨back,Ab,cb,hB,rfl,hbl,hm4,hv4⟩;have HR4:=hd0 (HR3.out.next hm4 hv4);have F4:=hd0 (Frz.next akL.ok F3.out (by omega) hv4);have O4:=hd0 ((Sp.next HR3.out.mkr hv4).own O3.out (by decide));have xG:=hd0 (Frz.of akM.ok hbl);have z4:=hv4.size;have x4:w4.cell? ⟨w.heap.size+1,0,none⟩=some (.slice none 0 0):=HR4.out.cell 0;have y4:=HR4.out.var.frozen 0;clear hbl hm4 hv4 HR3 F3 O3;go_wp2_with fail
  obtain⟨W5,oq⟩:∃W5,w4.setCell ⟨w.heap.size+1,0,none⟩ (.slice Ab back.length cb)=W5:=⟨_,rfl⟩
  have rO:=HR4.out.put hmw 0 (.slice Ab back.length cb);have mJ:=Frz.put akL.ok F4.out (g:=w.heap.size+1) (.inl (by omega)) 0 (.slice Ab back.length cb);have sH:=Frz.put akM.ok xG.out (g:=w.heap.size+1) (.inl (by omega)) 0 (.slice Ab back.length cb);have tq:=(Sp.set (m:=m) HR4.out.var (by omega) 0 (.slice Ab back.length cb)).own O4.out (by decide);have z5:W5.heap.size=w4.heap.size:=by rw[<-oq];simp
  rw[oq] at rO mJ sH tq ⊢;have nK:=hd0 rO;have F5:=hd0 mJ;have xM:=hd0 sH;have O5:=hd0 tq;clear rO mJ sH tq oq HR4 F4 O4 xG x4 y4;refine(iF W5 m fs lp G Ag cg nK.out.mkr HF.out h1 hG).mono ?_;rintro e w6 ⟨ahead,Aa,ca,hA,rfl,hal,uS,hv6⟩;have kV:=hd0 (nK.out.next uS hv6);have F6:=hd0 (Frz.next akL.ok F5.out (by omega) hv6);have xQ:=hd0 (Frz.next akM.ok xM.out (by omega) hv6);have O6:=hd0 ((Sp.next nK.out.mkr hv6).own O5.out (by decide));have xR:=hd0 (Frz.of akM.ok hal);have z6:=hv6.size;have x6:w6.cell? ⟨w.heap.size+1,2,none⟩=some (.slice none 0 0):=kV.out.cell 2;have y6:=kV.out.var.frozen 2;clear hal uS hv6 nK F5 O5 xM;go_wp2_with fail
  obtain⟨Wx,fZ⟩:∃Wx,w6.setCell ⟨w.heap.size+1,2,none⟩ (.slice Aa ahead.length ca)=Wx:=⟨_,rfl⟩
  have rG:=kV.out.put hmw 2 (.slice Aa ahead.length ca);have nS:=Frz.put akL.ok F6.out (g:=w.heap.size+1) (.inl (by omega)) 2 (.slice Aa ahead.length ca);have rW:=Frz.put akM.ok xQ.out (g:=w.heap.size+1) (.inl (by omega)) 2 (.slice Aa ahead.length ca);have rJ:=Frz.put akM.ok xR.out (g:=w.heap.size+1) (.inl (by omega)) 2 (.slice Aa ahead.length ca);have rF:=(Sp.set (m:=m) kV.out.var (by omega) 2 (.slice Aa ahead.length ca)).own O6.out (by decide);have z7:Wx.heap.size=w6.heap.size:=by rw[<-fZ];simp
  rw[fZ] at rG nS rW rJ rF ⊢;have hpk:∃(back:List (List Int)) (Ab:Option Addr) (cb:Nat) (ahead:List (List Int)) (Aa:Option Addr) (ca:Nat) (bz hib bC hia:Nat),RB w m fs lp Wx.heap.size W0.heap.size w1.heap.size As s (.slice (some ⟨w1.heap.size,0,none⟩) 1 1) 1 [.slice As s.length cs] bz hib Ab cb back bC hia Aa ca ahead (.slice none 0 0) (.slice none 0 0) Wx/\akT G 2 back/\akT G 2 ahead/\(w1.heap.size<bz\/hib<=w1.heap.size)/\(w1.heap.size<bC\/hia<=w1.heap.size):=⟨back,Ab,cb,ahead,Aa,ca,w3.heap.size,w4.heap.size,W5.heap.size,w6.heap.size,⟨rG,nS,rF,rW,rJ,by omega,by omega,by omega,by omega,by omega,by omega,by omega,af _⟩,hB,hA,.inl (by omega),.inl (by omega)⟩
  have hzx:w1.heap.size+1<=Wx.heap.size:=by omega
  clear rG nS rW rJ rF fZ kV F6 xQ O6 xR x6 y6 hB hA z3 z4 z5 z6 z7;obtain⟨back,Ab,cb,ahead,Aa,ca,bz,hib,bC,hia,hrb,hB,hA,hbb,hba⟩:=hpk;have HX:=hd0 hrb;have iw:=hd0 hB;have rX:=hd0 hA;clear hrb hB hA;have x1:Wx.cell? ⟨w.heap.size+1,1,none⟩=some (.slice (some ⟨w1.heap.size,0,none⟩) 1 1):=HX.out.rs.cell 1;have ji:w.heap.size+1≠m:=by omega
  have bQ:True:=trivial
  first|(go_region_with (go_at_call 151;have _t:=bQ;refine(iF _ m fs lp G Ag cg (by exact HX.out.rs.mkr) HF.out h1 hG).mono ?_;rintro e wq ⟨q,Aq,cq,hq,rfl,AP,CX,hvq⟩;have Px:=dK hvq ji x1;have wG:=HX.out.drew.next hmw CX hvq;have zq:=hvq.size;have zq':Wx.heap.size<=wq.heap.size:=zq;have zrq:=wG.rs.var.lt;obtain⟨A5,c5,w9,cells,hrun,x9,y9,h9⟩:=wG.app (cq:=cq) hmw ⟨af _,hbb,hba⟩ (Frz.of akM.ok AP) (show w1.heap.size<Wx.heap.size by omega) (af _) (show w.heap.size+2<=Wx.heap.size by omega) (by have:=hq.few;omega);have mY:=hd0 h9;have HQ:=hd0 hq;clear _t bQ wG h9 CX hvq AP hq))|fail
  all_goals
   obtain⟨Wy,CS⟩:∃Wy,w9.setCell ⟨w.heap.size+1,1,none⟩ (.slice A5 (1+q.length) c5)=Wy:=⟨_,rfl⟩
   rw[CS] at mY ⊢;clear CS hrun x9 y9 Px x1;go_wp2_with fail
   refine(az Wy m fs lp G mY.out.rb.rs.mkr h1 (by omega)).mono ?_;rintro e wb ⟨x,hx,rfl,hmb,hvb⟩;have Ig:=hd0 (mY.out.next hmw hmb hvb);have zb:=hvb.size;clear hmb hvb;have v3:wb.cell? ⟨w.heap.size+1,3,none⟩=some (.slice none 0 0):=Ig.out.rb.rs.cell 3;have y3:=Ig.out.rb.rs.var.frozen 3;have zrb:=Ig.out.rb.rs.var.lt
   go_upto_region 33 with fail
   have hb0:Below wb.heap.size (wb.setCell ⟨w.heap.size+1,3,none⟩ (.slice (some ⟨wb.heap.size,0,none⟩) 1 1)) ((wb.setCell ⟨w.heap.size+1,3,none⟩ (.slice (some ⟨wb.heap.size,0,none⟩) 1 1)).alloc (.cells #[.int .i64 x] aQ)):=by have:=(ant (wb.setCell ⟨w.heap.size+1,3,none⟩ (.slice (some ⟨wb.heap.size,0,none⟩) 1 1)).heap.size (wb.setCell ⟨w.heap.size+1,3,none⟩ (.slice (some ⟨wb.heap.size,0,none⟩) 1 1))).alloc (af _) (.cells #[.int .i64 x] aQ);simpa using this
   have hput:=Ig.out.alZ hmw (.slice (some ⟨wb.heap.size,0,none⟩) 1 1);have hE:=hput.below (w2:=(wb.setCell ⟨w.heap.size+1,3,none⟩ (.slice (some ⟨wb.heap.size,0,none⟩) 1 1)).alloc (.cells #[.int .i64 x] aQ)) (by simpa using hb0);have hown:=yJ (wb.setCell ⟨w.heap.size+1,3,none⟩ (.slice (some ⟨wb.heap.size,0,none⟩) 1 1)) w.heap.size aQ 1 1 #[.int .i64 x] (by simp;omega) rfl (by omega);simp only[World.size_setCell] at hown;obtain⟨WE,XY⟩:∃WE,(wb.setCell ⟨w.heap.size+1,3,none⟩ (.slice (some ⟨wb.heap.size,0,none⟩) 1 1)).alloc (.cells #[.int .i64 x] aQ)=WE:=⟨_,rfl⟩
   rw[XY] at hE hown ⊢;clear hb0 hput XY;have v0:WE.cell? ⟨w.heap.size+1,0,none⟩=some (.slice Ab back.length cb):=hE.rb.rs.cell 0;have v1:WE.cell? ⟨w.heap.size+1,1,none⟩=some (.slice A5 (1+q.length) c5):=hE.rb.rs.cell 1;have v2:WE.cell? ⟨w.heap.size+1,2,none⟩=some (.slice Aa ahead.length ca):=hE.rb.rs.cell 2;have v3:WE.cell? ⟨w.heap.size+1,3,none⟩=some (.slice (some ⟨wb.heap.size,0,none⟩) 1 1):=hE.rb.rs.cell 3;have v4:WE.cell? ⟨w.heap.size+1,4,none⟩=some (.slice none 0 0):=hE.rb.rs.cell 4;have v5:WE.cell? ⟨w.heap.size+1,5,none⟩=some (.int .i64 0):=hE.rb.rs.cell 5;have r0:WE.cell? ⟨w.heap.size,0,none⟩=some (.slice none 0 0):=hE.rb.rs.res.cell 0;have r1:WE.cell? ⟨w.heap.size,1,none⟩=some (.slice none 0 0):=hE.rb.rs.res.cell 1;have r2:WE.cell? ⟨w.heap.size,2,none⟩=some (.slice none 0 0):=hE.rb.rs.res.cell 2;have r3:WE.cell? ⟨w.heap.size,3,none⟩=some (.slice none 0 0):=hE.rb.rs.res.cell 3;have r4:WE.cell? ⟨w.heap.size,4,none⟩=some (.slice none 0 0):=hE.rb.rs.res.cell 4;have r5:WE.cell? ⟨w.heap.size,5,none⟩=some (.int .i64 0):=hE.rb.rs.res.cell 5;have f0:=hE.rb.rs.res.frozen 0;have f1:=hE.rb.rs.res.frozen 1;have f2:=hE.rb.rs.res.frozen 2;have f3:=hE.rb.rs.res.frozen 3;have f4:=hE.rb.rs.res.frozen 4;have f5:=hE.rb.rs.res.frozen 5;go_wp2_with fail
   obtain⟨b0,b1,b2,b3,b4,b5,b6,b7⟩:=hE.rb.bnd;have bq:=hE.bq;have hr:ak8 G 3 ⟨back,[s]++q,ahead,[(x:Int)],[],0⟩:=ak8.mk' (iw.out.mono (by omega)) ((akT.one HS.out).app HQ.out) (rX.out.mono (by omega)) ⟨fun n hn=>by simp only[anu] at hn;subst hn;exact⟨by omega,by omega⟩,by simp⟩ (by simp) (show N9 0 from by unfold N9;omega) (fun h=>absurd h (by decide)) (fun h=>absurd h (by decide)) (fun _=>rfl) (fun _=>rfl);have hfl:Fl akM 1 WE (TS je w.heap.size WE) ([.slice As s.length cs]++cells) ([s]++q):=(Fl.one (R:=akM) ⟨As,cs,rfl,Frz.typed akL.ok hE.rb.set (by decide) (by omega)⟩ rfl).append (hE.fq.mono akM.ok (TR.ts (by decide) (by omega)));have hlq:([s]++q).length=1+q.length:=by simp;omega
   have hrs:=hE.rb.rs;have hin:=hE.rb.inn;rw[<-hlq] at hrs hin;have hfin:=jU (G:=G) (kind:=3) (r:=⟨back,[s]++q,ahead,[(x:Int)],[],0⟩) (A0:=Ab) (A1:=A5) (A2:=Aa) (A3:=some ⟨wb.heap.size,0,none⟩) (A4:=none) (c0:=cb) (c1:=c5) (c2:=ca) (c3:=1) (c4:=0) hrs hmw hr (show I64 0 from by unfold I64;omega) (Frz.typed akM.ok hE.rb.fb (by decide) (by omega)) (dG hin hfl (by decide) (by omega) (by omega)) (Frz.typed akM.ok hE.rb.fa (by decide) (by omega)) (dG hown (by simpa [aH,cI] using jP WE (TS je w.heap.size WE) [(x:Int)] (fun n hn=>by simp only[anu] at hn;subst hn;exact In.i64 hG ⟨by omega,by omega⟩)) (by decide) (af _) (by omega)) Sl.nil;simp only[hlq] at hfin;exact bodyPost_ret (dV hfin.1 rfl rfl) rfl hfin.2
 have e0:((y:Int)==0)=false:=by simp;omega
 clear y0;go_wp2_with fail
 obtain⟨Wx,fZ⟩:∃Wx,w3=Wx:=⟨_,rfl⟩
 subst fZ;have hpk:∃(back:List (List Int)) (Ab:Option Addr) (cb:Nat) (ahead:List (List Int)) (Aa:Option Addr) (ca:Nat) (bz hib bC hia:Nat),RB w m fs lp w3.heap.size W0.heap.size w1.heap.size As s (.slice (some ⟨w1.heap.size,0,none⟩) 1 1) 1 [.slice As s.length cs] bz hib Ab cb back bC hia Aa ca ahead (.slice none 0 0) (.slice none 0 0) w3/\akT G 2 back/\akT G 2 ahead/\(w1.heap.size<bz\/hib<=w1.heap.size)/\(w1.heap.size<bC\/hia<=w1.heap.size):=⟨[],none,0,[],none,0,W0.heap.size,0,W0.heap.size,0,⟨HR3.out,F3.out,O3.out,Sl.nil,Sl.nil,by omega,by omega,by omega,by omega,by omega,by omega,by omega,af _⟩,.nil _ _,.nil _ _,.inr (nz _),.inr (nz _)⟩
 have hzx:w1.heap.size+1<=w3.heap.size:=by omega
 obtain⟨Wx,fZ⟩:∃Wx,w3=Wx:=⟨_,rfl⟩
 rw[fZ] at hpk hzx ⊢;clear HR3 F3 O3 z3 fZ;obtain⟨back,Ab,cb,ahead,Aa,ca,bz,hib,bC,hia,hrb,hB,hA,hbb,hba⟩:=hpk;have HX:=hd0 hrb;have iw:=hd0 hB;have rX:=hd0 hA;clear hrb hB hA;have x1:Wx.cell? ⟨w.heap.size+1,1,none⟩=some (.slice (some ⟨w1.heap.size,0,none⟩) 1 1):=HX.out.rs.cell 1;have ji:w.heap.size+1≠m:=by omega
 have bQ:True:=trivial
 first|(go_region_with (go_at_call 151;have _t:=bQ;refine(iF _ m fs lp G Ag cg (by exact HX.out.rs.mkr) HF.out h1 hG).mono ?_;rintro e wq ⟨q,Aq,cq,hq,rfl,AP,CX,hvq⟩;have Px:=dK hvq ji x1;have wG:=HX.out.drew.next hmw CX hvq;have zq:=hvq.size;have zq':Wx.heap.size<=wq.heap.size:=zq;have zrq:=wG.rs.var.lt;obtain⟨A5,c5,w9,cells,hrun,x9,y9,h9⟩:=wG.app (cq:=cq) hmw ⟨af _,hbb,hba⟩ (Frz.of akM.ok AP) (show w1.heap.size<Wx.heap.size by omega) (af _) (show w.heap.size+2<=Wx.heap.size by omega) (by have:=hq.few;omega);have mY:=hd0 h9;have HQ:=hd0 hq;clear _t bQ wG h9 CX hvq AP hq))|fail
 all_goals
  obtain⟨Wy,CS⟩:∃Wy,w9.setCell ⟨w.heap.size+1,1,none⟩ (.slice A5 (1+q.length) c5)=Wy:=⟨_,rfl⟩
  rw[CS] at mY ⊢;clear CS hrun x9 y9 Px x1;go_wp2_with fail
  refine(az Wy m fs lp G mY.out.rb.rs.mkr h1 (by omega)).mono ?_;rintro e wb ⟨x,hx,rfl,hmb,hvb⟩;have Ig:=hd0 (mY.out.next hmw hmb hvb);have zb:=hvb.size;clear hmb hvb;have v3:wb.cell? ⟨w.heap.size+1,3,none⟩=some (.slice none 0 0):=Ig.out.rb.rs.cell 3;have y3:=Ig.out.rb.rs.var.frozen 3;have zrb:=Ig.out.rb.rs.var.lt
  go_upto_region 33 with fail
  have hb0:Below wb.heap.size (wb.setCell ⟨w.heap.size+1,3,none⟩ (.slice (some ⟨wb.heap.size,0,none⟩) 1 1)) ((wb.setCell ⟨w.heap.size+1,3,none⟩ (.slice (some ⟨wb.heap.size,0,none⟩) 1 1)).alloc (.cells #[.int .i64 x] aQ)):=by have:=(ant (wb.setCell ⟨w.heap.size+1,3,none⟩ (.slice (some ⟨wb.heap.size,0,none⟩) 1 1)).heap.size (wb.setCell ⟨w.heap.size+1,3,none⟩ (.slice (some ⟨wb.heap.size,0,none⟩) 1 1))).alloc (af _) (.cells #[.int .i64 x] aQ);simpa using this
  have hput:=Ig.out.alZ hmw (.slice (some ⟨wb.heap.size,0,none⟩) 1 1);have hE:=hput.below (w2:=(wb.setCell ⟨w.heap.size+1,3,none⟩ (.slice (some ⟨wb.heap.size,0,none⟩) 1 1)).alloc (.cells #[.int .i64 x] aQ)) (by simpa using hb0);have hown:=yJ (wb.setCell ⟨w.heap.size+1,3,none⟩ (.slice (some ⟨wb.heap.size,0,none⟩) 1 1)) w.heap.size aQ 1 1 #[.int .i64 x] (by simp;omega) rfl (by omega);simp only[World.size_setCell] at hown;obtain⟨WE,XY⟩:∃WE,(wb.setCell ⟨w.heap.size+1,3,none⟩ (.slice (some ⟨wb.heap.size,0,none⟩) 1 1)).alloc (.cells #[.int .i64 x] aQ)=WE:=⟨_,rfl⟩
  rw[XY] at hE hown ⊢;clear hb0 hput XY;have v0:WE.cell? ⟨w.heap.size+1,0,none⟩=some (.slice Ab back.length cb):=hE.rb.rs.cell 0;have v1:WE.cell? ⟨w.heap.size+1,1,none⟩=some (.slice A5 (1+q.length) c5):=hE.rb.rs.cell 1;have v2:WE.cell? ⟨w.heap.size+1,2,none⟩=some (.slice Aa ahead.length ca):=hE.rb.rs.cell 2;have v3:WE.cell? ⟨w.heap.size+1,3,none⟩=some (.slice (some ⟨wb.heap.size,0,none⟩) 1 1):=hE.rb.rs.cell 3;have v4:WE.cell? ⟨w.heap.size+1,4,none⟩=some (.slice none 0 0):=hE.rb.rs.cell 4;have v5:WE.cell? ⟨w.heap.size+1,5,none⟩=some (.int .i64 0):=hE.rb.rs.cell 5;have r0:WE.cell? ⟨w.heap.size,0,none⟩=some (.slice none 0 0):=hE.rb.rs.res.cell 0;have r1:WE.cell? ⟨w.heap.size,1,none⟩=some (.slice none 0 0):=hE.rb.rs.res.cell 1;have r2:WE.cell? ⟨w.heap.size,2,none⟩=some (.slice none 0 0):=hE.rb.rs.res.cell 2;have r3:WE.cell? ⟨w.heap.size,3,none⟩=some (.slice none 0 0):=hE.rb.rs.res.cell 3;have r4:WE.cell? ⟨w.heap.size,4,none⟩=some (.slice none 0 0):=hE.rb.rs.res.cell 4;have r5:WE.cell? ⟨w.heap.size,5,none⟩=some (.int .i64 0):=hE.rb.rs.res.cell 5;have f0:=hE.rb.rs.res.frozen 0;have f1:=hE.rb.rs.res.frozen 1;have f2:=hE.rb.rs.res.frozen 2;have f3:=hE.rb.rs.res.frozen 3;have f4:=hE.rb.rs.res.frozen 4;have f5:=hE.rb.rs.res.frozen 5;go_wp2_with fail
  obtain⟨b0,b1,b2,b3,b4,b5,b6,b7⟩:=hE.rb.bnd;have bq:=hE.bq;have hr:ak8 G 3 ⟨back,[s]++q,ahead,[(x:Int)],[],0⟩:=ak8.mk' (iw.out.mono (by omega)) ((akT.one HS.out).app HQ.out) (rX.out.mono (by omega)) ⟨fun n hn=>by simp only[anu] at hn;subst hn;exact⟨by omega,by omega⟩,by simp⟩ (by simp) (show N9 0 from by unfold N9;omega) (fun h=>absurd h (by decide)) (fun h=>absurd h (by decide)) (fun _=>rfl) (fun _=>rfl);have hfl:Fl akM 1 WE (TS je w.heap.size WE) ([.slice As s.length cs]++cells) ([s]++q):=(Fl.one (R:=akM) ⟨As,cs,rfl,Frz.typed akL.ok hE.rb.set (by decide) (by omega)⟩ rfl).append (hE.fq.mono akM.ok (TR.ts (by decide) (by omega)));have hlq:([s]++q).length=1+q.length:=by simp;omega
  have hrs:=hE.rb.rs;have hin:=hE.rb.inn;rw[<-hlq] at hrs hin;have hfin:=jU (G:=G) (kind:=3) (r:=⟨back,[s]++q,ahead,[(x:Int)],[],0⟩) (A0:=Ab) (A1:=A5) (A2:=Aa) (A3:=some ⟨wb.heap.size,0,none⟩) (A4:=none) (c0:=cb) (c1:=c5) (c2:=ca) (c3:=1) (c4:=0) hrs hmw hr (show I64 0 from by unfold I64;omega) (Frz.typed akM.ok hE.rb.fb (by decide) (by omega)) (dG hin hfl (by decide) (by omega) (by omega)) (Frz.typed akM.ok hE.rb.fa (by decide) (by omega)) (dG hown (by simpa [aH,cI] using jP WE (TS je w.heap.size WE) [(x:Int)] (fun n hn=>by simp only[anu] at hn;subst hn;exact In.i64 hG ⟨by omega,by omega⟩)) (by decide) (af _) (by omega)) Sl.nil;simp only[hlq] at hfin;exact bodyPost_ret (dV hfin.1 rfl rfl) rfl hfin.2
end
section
open Go.RowKit Go.Sort
theorem DD (l:List Int):aH l=l.map (Value.int .i64):=by
 induction l with
 |nil=>rfl
 |cons x r ih=>rw[aae,ih];rfl
theorem acy {w:World}{base g n c m:Nat}{e:TypeId}{xs ys:List Value}(h:w.ownsRow base e 1 (.slice (some ⟨g,0,none⟩) n c) n (xs++ys))(hm:xs.length=m)(hle:m<=n):w.ownsRow base e 1 (.slice (some ⟨g,0,none⟩) m c) m xs:=by
 rcases h.2 with⟨h0,_⟩|⟨g',cap',cur,hv,hg,hh,hn,hcap,hs,htk⟩
 ·cases h0
 cases hv;refine⟨by omega,.inr ⟨g,c,cur,rfl,hg,hh,by omega,hcap,hs,?_⟩⟩;have h9:(cur.toList.take (n*1)).take m=(xs++ys).take m:=by rw[htk]
 rw[List.take_take,Nat.min_eq_left (by omega),List.take_append_of_le_length (by omega),anN (l:=xs) (by omega)] at h9;rw[Nat.mul_one];exact h9
theorem UM (w:World)(A:Option Addr)(n c:Nat)(l:List Int){Bd:Nat}(hr:Rd w Bd A n 1 (aH l))(hn:n<=1000000000):
  Calls Tryz.prog 173 #[.slice A n c] w fun e w'=>∃A' c',e= .returned (.slice A' (setOf l).length c')/\w'.ownsRow w.heap.size 3 1 (.slice A' (setOf l).length c') (setOf l).length (aH (setOf l))/\Below w.heap.size w w':=by
 have hl:l.length=n:=by have:=hr.1;simpa [DD] using this
 rcases Nat.eq_zero_or_pos n with h0|h0
 ·subst h0
  obtain rfl:l=[]:=List.eq_nil_of_length_eq_zero hl;have hz:Hid (setOf []=[]):=rfl;have hcl:Hid (Calls Tryz.prog 143 #[.slice A 0 c] w fun e w'=>∃A' c',e= .returned (.slice A' 0 c')/\w'.ownsRow w.heap.size 3 1 (.slice A' 0 c') 0 []/\Below w.heap.size w w'):=by
   show Calls _ _ _ _ _;cases A with
   |none=>refine(Tryz.slices_Clone_int_nil 0 c w).mono ?_;rintro e w' ⟨rfl,rfl⟩;exact⟨none,0,rfl,World.ownsRow_nil _ _ _ _,ant _ _⟩
   |some a=>refine(Tryz.slices_Clone_int_zero a c w).mono ?_;rintro e w' ⟨v,rfl,ho,-,hb⟩;obtain⟨A',c',rfl⟩:=gY ho;exact⟨A',c',rfl,ho,hb⟩
  clear hr hn hl;go_enter Tryz.func173,Tryz.ntmps173
  go_wp2_with fail
  refine hcl.out.mono ?_;rintro e w1 ⟨A',c',rfl,ho,hb⟩;go_wp2_with fail
  refine(Tryz.slices_Sort_int_none A' c' w1).mono ?_;rintro e w2 ⟨rfl,rfl⟩;go_wp2_with fail
  refine(Tryz.slices_Compact_int_empty A' c' _).mono ?_;rintro e w3 ⟨rfl,rfl⟩;go_wp2;go_ret
  rw[hz.out];exact⟨A',c',rfl,ho,hb⟩
 obtain⟨b,o,rfl,hbk,adG⟩:=hr.2 h0;have hcl:=hd0 (Tryz.slices_Clone_int b o n c l w (by omega) (by omega) (fun j hj=>by
  refine adG j _ ?_;rw[DD,anX,anw hj];simp[List.getD,anw hj]))
 subst hl;rw[anA] at hcl;have hn':=hn;clear hr hbk adG;go_enter Tryz.func173,Tryz.ntmps173
 go_wp2_with fail
 refine hcl.out.mono ?_;rintro e w1 ⟨v,rfl,ho,hne,hb⟩;obtain⟨g,cap,cur,rfl,hg,hh,hnc,hcap,hs,htk⟩:∃g cap cur,v= .slice (some ⟨g,0,none⟩) l.length cap/\w.heap.size<=g/\w1.heap[g]? =some (.cells cur 3 (0,0))/\l.length<=cap/\cap<=maxLen/\cur.size=cap*1/\cur.toList.take l.length=l.map (Value.int .i64):=by
  rcases ho.2 with⟨_,h⟩|⟨g,cap,cur,hv,hg,hh,hnc,hcap,hs,htk⟩
  ·omega
  exact⟨g,cap,cur,hv,hg,hh,hnc,hcap,hs,by rw[Nat.mul_one] at htk;exact htk⟩
 have hgl:g<w1.heap.size:=(anx.1 hh).1;have hH:=holds_of_blockI hh htk;have hsort:=hd0 (Tryz.slices_Sort_int g 0 cap l w1 hH hgl (by omega));clear hne ho;go_wp2_with fail
 refine hsort.out.mono ?_;rintro e w2 ⟨rfl,q,os,hw2⟩;have hml:(l.mergeSort fun x y=>decide (x<=y)).length=l.length:=List.length_mergeSort _;have ho2:=ownsRow_sortedI (base:=w.heap.size) (n:=q) (os:=os) hml hg hh hnc hcap hs;have hg2:=grownBy_sortedI (w:=w1) (g:=g) (n:=q) (os:=os) (l.mergeSort fun x y=>decide (x<=y)).toArray;rw[<-hw2] at ho2 hg2;have hcs:=La l;generalize (l.mergeSort fun x y=>decide (x<=y))=ms at*
 obtain⟨Fp,hh2,hs2,agv⟩:∃Fp,w2.heap[g]? =some (.cells Fp 3 (0,0))/\Fp.size=cap*1/\Fp.toList.take ms.length=ms.map (Value.int .i64):=by
  rcases ho2.2 with⟨h,_⟩|⟨g',cap',cur',hv,-,hh',-,-,hs',acA⟩
  ·cases h
  cases hv;exact⟨cur',hh',hs',by rw[Nat.mul_one] at acA;rw[hml];exact acA⟩
 have hcomp:=Tryz.slices_Compact_int g 0 cap ms w2 (holds_of_blockI hh2 agv) (by omega) (by omega);rw[hcs,hml] at hcomp;have afV:=hd0 hcomp;have hle:=Kv l;clear hsort hcl hcomp hw2 hh htk hH;go_wp2_with fail
 refine afV.out.mono ?_;rintro e w3 ⟨rfl,q3,hw3⟩;have hl3:(setOf l++List.replicate (l.length - (setOf l).length) 0).length=l.length:=by simp;omega
 have ho3:=ownsRow_sortedI (base:=w.heap.size) (n:=q3) (os:= #[]) hl3 hg hh2 hnc hcap hs2;have hg3:=grownBy_sortedI (w:=w2) (g:=g) (n:=q3) (os:= #[]) (setOf l++List.replicate (l.length - (setOf l).length) 0).toArray;rw[grow_empty,<-hw3] at ho3 hg3;rw[an7,<-DD] at ho3;have Ho:=hd0 (acy (m:=(setOf l).length) ho3 (by simp[DD]) hle);have Hb:=hd0 ((hb.grown hg2 hb.size (fun k e=>by cases e;exact hg)).grown hg3 (nt hb.size hg2.size) (fun k e=>by cases e;exact hg));clear ho3 hg3 hw3 ho2 hg2;go_wp2;go_ret
 exact⟨_,_,rfl,Ho.out,Hb.out⟩
end
section
open Go.RowKit
def aN (gl:Gl)(cls:List (B×List Int))(er:Int)(l:List (List B)):Int×List (List Int):=l.foldl (fun q x=>((aY gl cls q.1 [] x).1,q.2++[(aY gl cls q.1 [] x).2])) (er,[])
theorem Oe (gl:Gl)(cls:List (B×List Int))(er:Int)(l:List (List B))(x:List B):aN gl cls er (l++[x])=((aY gl cls (aN gl cls er l).1 [] x).1,(aN gl cls er l).2++[(aY gl cls (aN gl cls er l).1 [] x).2]):=by unfold aN;rw[aoh];rfl
theorem yf (gl:Gl)(cls:List (B×List Int))(er:Int)(l:List (List B)):(aN gl cls er l).2.length=l.length:=by
 suffices h:∀q:Int×List (List Int),(l.foldl (fun q x=>((aY gl cls q.1 [] x).1,q.2++[(aY gl cls q.1 [] x).2])) q).2.length=q.2.length+l.length by have:=h (er,[]);simpa [aN] using this
 induction l with
 |nil=>intro q;rfl
 |cons x r ih=>intro q;rw[anW,ih];simp;omega
def IB (base:Nat)(w:World):Bs:=fun g=>base<=g/\∃cur,Bk w g 3 cur
theorem IB.keep {base:Nat}{w w':World}{row:Option Nat}(hg:w.grownBy w' row)(hr:∀g,row=some g->∃t cur,Bk w g t cur/\t≠3):Same (IB base w) w w'/\∀g,IB base w g->IB base w' g:=by
 have h:Same (IB base w) w w':=fun b ⟨_,cur,hb⟩=>hg.block b hb.lt fun e=>by
  obtain⟨t,cur',h1,h2⟩:=hr b e.symm;exact h2 (bU h1 hb).1
 exact⟨h,fun g hg'=>⟨hg'.1,by obtain⟨cur,hb⟩:=hg'.2;exact⟨cur,hb.keep (h g hg')⟩⟩⟩
theorem Fl.ib {base:Nat}{w w':World}{row:Option Nat}{cs:List Value}{xs:List (List Int)}(h:Fl akM 1 w (IB base w) cs xs)(hg:w.grownBy w' row)(hr:∀g,row=some g->∃t cur,Bk w g t cur/\t≠3):Fl akM 1 w' (IB base w') cs xs:=(h.keep akM.ok (IB.keep hg hr).1).mono akM.ok (IB.keep hg hr).2
theorem QV {w:World}{base b2:Nat}{l:List Int}{A:Option Addr}{c:Nat}(ho:w.ownsRow b2 3 1 (.slice A l.length c) l.length (aH l))(hI:∀x∈l,I64 x)(hb:base<=b2):akM w (IB base w) [.slice A l.length c] l:=by refine⟨A,c,rfl,Sl.aly ho (Dj w (IB base w) l hI) (fun g hg=> ?_) (by decide)⟩;obtain⟨cur,hk⟩:=bg ho hg;exact⟨nt hb (ho.lt g hg).1,cur,hk⟩
def al3 (w:World)(rb p:Nat)(er:Int)(n:Nat)(rows:List (List Int))(v:Value)(wr:World):Prop:=∃A c hs,v= .slice A n c/\wr.ownsRow w.heap.size 22 1 (.slice A n c) n hs/\Fl akM 1 wr (IB w.heap.size wr) hs rows/\Rdr wr rb p er/\w.grownBy wr (some rb)
theorem al3.next {w wr w1 w2:World}{rb p:Nat}{er er':Int}{n:Nat}{rows:List (List Int)}{l:List Int}{A A5 A6:Option Addr}{c c5 c6:Nat}{hs:List Value}(h1:wr.ownsRow w.heap.size 22 1 (.slice A n c) n hs)(h2:Fl akM 1 wr (IB w.heap.size wr) hs rows)(h3:Rdr wr rb p er)(h4:w.grownBy wr (some rb))
  (k1:w1.ownsRow wr.heap.size 3 1 (.slice A5 l.length c5) l.length (aH l)) (hI:∀x∈l,I64 x) (k2:Rdr w1 rb p er') (k3:wr.grownBy w1 (some rb)) (m1:w2.ownsRow w.heap.size 22 1 (.slice A6 (n+1) c6) (n+1) (hs++[.slice A5 l.length c5])) (m2:w1.grownBy w2 (Value.slice A n c).ownBlock):
  al3 w rb p er' (n+1) (rows++[l]) (.slice A6 (n+1) c6) w2:=by
 have o1:=h1.kept k3 (bY h1 h3 (by decide));have hne:∀g,(Value.slice A n c).ownBlock=some g->∃t cur,Bk w1 g t cur/\t≠3:=fun g e=>by
  obtain⟨cur,hk⟩:=bg o1 e;exact⟨_,cur,hk,by decide⟩
 have f1:=(h2.ib k3 (fun g e=>by cases e;exact⟨_,_,h3,by decide⟩)).ib m2 hne;have k1':=k1.kept m2 (own_ne k1 o1 (by decide));refine⟨A6,c6,_,rfl,m1,f1.snoc (R:=akM) (QV k1' hI h4.size) rfl,Bk.grown k2 m2 o1 (by decide),KT (df h4 k3) m2 (fun g e=>(h1.lt g e).1)⟩
theorem abU {w wr:World}{rb p:Nat}{er:Int}{A:Option Addr}{n k:Nat}{hs:List Value}{rows:List (List P3)}(hr:RdT w 119 A n 1 hs)(hin:RowsIn dZ w hs rows)(hR:Rdr w rb p er)(hg:w.grownBy wr (some rb))(hk:k<n):
  ∃b o r Ar kr cr,A=some ⟨b,o,none⟩/\Hid (rows[k]? =some r)/\b<wr.heap.size/\wr.cell? ⟨b,o+k,none⟩=some (.slice Ar kr cr)/\RdT wr dZ Ar kr 3 (dD r)/\kr=r.length:=by
 obtain⟨b,o,cur,e,hb,hc⟩:=hr.2 (by omega);have hl:hs.length=n:=by have:=hr.1;omega
 have hk2:k<rows.length:=by rw[<-hin.1,hl];exact hk
 obtain⟨Ar,kr,cr,g1,g2,-⟩:=hin.2 k _ (anw hk2);have hb2:Bk wr b 119 cur:=Bk.kept2 hg hb (fun e'=>by
  subst e';have:=(bU hb hR).1
  revert this
  decide)
 exact⟨b,o,rows[k],Ar,kr,cr,e,anw hk2,hb2.lt,(hb2.cell _).trans (hc k _ g1),Ja g2 hR hg,g2.rd.alH.symm⟩
def aO (rows:List (List P3)):List (List B):=rows.map ag
theorem Uj {rows:List (List P3)}{k:Nat}{r:List P3}(h:rows[k]? =some r):(aO rows).take (k+1)=(aO rows).take k++[ag r]:=by unfold aO;rw[aob,anX,h];rfl
theorem PAt.reader {w w':World}{p gm cm rb:Nat}{err:Int}{gl:Gl}{cls:List (B×List Int)}(h:PAt w p gm cm gl cls)(hr:Rdr w rb p err)(hg:w.grownBy w' (some rb)):PAt w' p gm cm gl cls:=h.grown hr hg
theorem rows_ok (w:World)(rb p gm cm:Nat)(gl:Gl)(cls:List (B×List Int))(err:Int)(A:Option Addr)(n c:Nat)(rows:List (List P3))(hs:List Value)(hR:Rdr w rb p err)(hP:PAt w p gm cm gl cls)(hr:RdT w 119 A n 1 hs)(hin:RowsIn dZ w hs rows)(hn:n<=1000000000)
  (hl:∀r∈rows,r.length<=1000000000) (hI:∀er l,∀x∈(aY gl cls er [] l).2,I64 x):
  Calls Tryz.prog 136 #[.pointer (some ⟨rb,0,none⟩),.slice A n c] w fun e w'=>∃v,e= .returned v/\al3 w rb p (aN gl cls err (aO rows)).1 n (aN gl cls err (aO rows)).2 v w':=by
 have hlen:hs.length=n:=by have:=hr.1;omega
 have hrl:=hd0 (show rows.length=n by rw[<-hin.1];exact hlen);have HR:=hd0 hR;have HP:=hd0 hP;have HW:=hd0 hr;have Xk:=hd0 hin;have HL:=hd0 hl;have HI:=hd0 hI;clear hR hP hr hin hl hI hlen;go_enter Tryz.func136,Tryz.ntmps136
 go_wp2;go_loopw [5,10] (fun v i wr=>∃k:Nat,k<=n/\i= .int .i64 k/\al3 w rb p (aN gl cls err ((aO rows).take k)).1 k (aN gl cls err ((aO rows).take k)).2 v wr) (fun _ i _=>n - (intOf i).toNat)
 case atStart=>exact⟨0,nz _,rfl,none,0,[],rfl,World.ownsRow_nil _ _ _ _,Fl.nil,HR.out,World.grownBy.refl _ _⟩
 case round=>
  obtain⟨k,hk,rfl,A4,c4,hs4,rfl,ho,hf,hr,hg⟩:=hrel;by_cases hlt:k<n
  ·obtain⟨b,o,r,Ar,kr,cr,rfl,hp,hbw,q1,hrd,hkr⟩:=abU HW.out Xk.out HR.out hg hlt;have Zx:kr<=1000000000:=by rw[hkr];exact HL.out r (anC hp.out)
   have hsn:=Uj hp.out;have FU:=hd0 (Oe gl cls err ((aO rows).take k) (ag r));rw[<-hsn] at FU;have hr0:=hd0 hr;have hf0:=hd0 hf;have HG:=hd0 hg;have Su:=HI.out (aN gl cls err ((aO rows).take k)).1 (ag r);have hcall:=hd0 (VN wr rb p gm cm gl cls (aN gl cls err ((aO rows).take k)).1 Ar kr cr r hr (HP.out.reader HR.out hg) hrd Zx);have hsz:=hg.size;generalize (aN gl cls err ((aO rows).take k)).1=er at*
   generalize (aN gl cls err ((aO rows).take k)).2=acc at*
   generalize hq:aY gl cls er [] (ag r)=qq at*
   obtain⟨AU,res⟩:=qq;have ahA:Hid (aN gl cls err ((aO rows).take (k+1))=(AU,acc++[res])):=by show _=_;rw[FU.out]
   have NT:=hd0 Su;clear hp hsn FU hr hrd hkr hf hg Su hq;go_wp2_with (first
    |(go_at_call 128;refine hcall.out.mono ?_;rintro e w1 ⟨v,rfl,A5,c5,rfl,xN,nY,hg5⟩;have z1:=hg5.size)
    |(at_builtin;refine iP Hw rfl (.tmp 14) (.tmp 18) rfl w1 _ rfl w.heap.size k c4 A4 hs4 #[.slice A5 res.length c5] rfl rfl rfl (ho.kept hg5 (bY ho hr0.out (by decide))) (by simp[Value.oneCell']) (by omega) (by omega) ?_;intro A6 c6 w2 ho2 hg3 _))
   go_roundw
   case rel=>exact⟨k+1,by omega,by simp,by rw[ahA.out];exact al3.next ho hf0.out hr0.out HG.out xN NT.out nY hg5 ho2 hg3⟩
   case measure=>simp[intOf];omega
  obtain rfl:k=n:=by omega
  have ht:Hid ((aO rows).take k=aO rows):=by show _=_;exact anN (by rw[aO,anB,hrl.out];exact af _)
  rw[ht.out] at hf hr;go_wp2;go_ret
  exact⟨_,rfl,A4,c4,hs4,rfl,ho,hf,hr,hg⟩
def al2 (w:World)(n:Nat)(rows:List (List Int))(v:Value)(wr:World):Prop:=∃A c hs,v= .slice A n c/\wr.ownsRow w.heap.size 22 1 (.slice A n c) n hs/\Fl akM 1 wr (IB w.heap.size wr) hs rows/\Below w.heap.size w wr
theorem al2.next {w wr w1 w2:World}{n:Nat}{rows:List (List Int)}{l:List Int}{A A5 A6:Option Addr}{c c5 c6:Nat}{hs:List Value}(h1:wr.ownsRow w.heap.size 22 1 (.slice A n c) n hs)(h2:Fl akM 1 wr (IB w.heap.size wr) hs rows)(h4:Below w.heap.size w wr)
  (k1:w1.ownsRow wr.heap.size 3 1 (.slice A5 l.length c5) l.length (aH l)) (hI:∀x∈l,I64 x) (k3:Below wr.heap.size wr w1) (m1:w2.ownsRow w.heap.size 22 1 (.slice A6 (n+1) c6) (n+1) (hs++[.slice A5 l.length c5])) (m2:w1.grownBy w2 (Value.slice A n c).ownBlock):
  al2 w (n+1) (rows++[l]) (.slice A6 (n+1) c6) w2:=by
 have o1:=own_below h1 k3;have hne:∀g,(Value.slice A n c).ownBlock=some g->∃t cur,Bk w1 g t cur/\t≠3:=fun g e=>by
  obtain⟨cur,hk⟩:=bg o1 e;exact⟨_,cur,hk,by decide⟩
 have f1:=(h2.ib (aB k3 none) (fun g e=>by cases e)).ib m2 hne;have k1':=k1.kept m2 (own_ne k1 o1 (by decide));exact⟨A6,c6,_,rfl,m1,f1.snoc (R:=akM) (QV k1' hI h4.size) rfl,(h4.trans (k3.mono h4.size)).grown m2 (nt h4.size k3.size) (fun g e=>(h1.lt g e).1)⟩
theorem RZ {w:World}{S:Bs}{hs:List Value}{rows:List (List Int)}(h:Fl akM 1 w S hs rows){k:Nat}{r:List Int}(hk:rows[k]? =some r):∃A c,hs[k]? =some (.slice A r.length c)/\Sl akL 1 w S A r:=by obtain⟨cs,⟨A,c,rfl,h1⟩,-,h3⟩:=h.2 k r hk;have:=h3 0 _ rfl;rw[Nat.mul_one,Nat.add_zero] at this;exact⟨A,c,this,h1⟩
theorem VY (w:World)(A:Option Addr)(n c:Nat)(rows:List (List Int))(hs:List Value){S:Bs}(hr:RdT w 22 A n 1 hs)(hf:Fl akM 1 w S hs rows)(hS:∀b,S b->b<w.heap.size)(hn:n<=1000000000)(hl:∀r∈rows,r.length<=1000000000)(hI:∀r∈rows,∀x∈r,I64 x):
  Calls Tryz.prog 137 #[.slice A n c] w fun e w'=>∃v,e= .returned v/\al2 w n (rows.map setOf) v w':=by
 have hrl:rows.length=n:=by have h1:=hr.1;have h2:=hf.1;omega
 have HW:=hd0 hr;have HF:=hd0 hf;have HS:=hd0 hS;have HL:=hd0 hl;have HI:=hd0 hI;have wQ:=hd0 hrl;clear hr hf hS hl hI hrl;go_enter Tryz.func137,Tryz.ntmps137
 go_wp2;go_loopw [3,8] (fun v i wr=>∃k:Nat,k<=n/\i= .int .i64 k/\al2 w k ((rows.map setOf).take k) v wr) (fun _ i _=>n - (intOf i).toNat)
 case atStart=>exact⟨0,nz _,rfl,none,0,[],rfl,World.ownsRow_nil _ _ _ _,Fl.nil,ant _ _⟩
 case round=>
  obtain⟨k,hk,rfl,A4,c4,hs4,rfl,ho,hf4,hb4⟩:=hrel;by_cases hlt:k<n
  ·obtain⟨r,hrk⟩:∃r,rows[k]? =some r:=⟨_,anw (by rw[wQ.out];exact hlt)⟩
   obtain⟨Ar,cr,hhk,hsl⟩:=RZ HF.out hrk;obtain⟨b,o,cur,rfl,hb,hcc⟩:=HW.out.2 (by omega);have q1:wr.cell? ⟨b,o+k,none⟩=some (.slice Ar r.length cr):=((aj hb4).1 _ _ hb.lt).trans ((hb.cell _).trans (hcc k _ hhk));have hbw:b<wr.heap.size:=anD hb.lt hb4.size;have hrm:=anC hrk;have Zx:=HL.out r hrm;have hrd:Rd wr w.heap.size Ar r.length 1 (aH r):=(Vh hsl HS.out).below hb4 (af _);have hcall:=hd0 (UM wr Ar r.length cr r hrd Zx);have hsn:Hid ((rows.map setOf).take (k+1)=(rows.map setOf).take k++[setOf r]):=by show _=_;rw[aob,anX,hrk];rfl
   have NT:Hid (∀x∈setOf r,I64 x):=fun x hx=>HI.out r hrm x ((CB x r).1 hx)
   have hsz:=hb4.size;have Hf4:=hd0 hf4;have Hb4:=hd0 hb4;generalize (rows.map setOf).take k=acc at*
   clear hrk hhk hsl hb hcc hrm hrd hf4 hb4;go_wp2_with (first
    |(go_at_call 173;refine hcall.out.mono ?_;rintro e w1 ⟨A5,c5,rfl,xN,hb5⟩;have z1:=hb5.size)
    |(at_builtin;refine iP Hw rfl (.tmp 12) (.tmp 15) rfl w1 _ rfl w.heap.size k c4 A4 hs4 #[.slice A5 (setOf r).length c5] rfl rfl rfl (own_below ho hb5) (by simp[Value.oneCell']) (by omega) (by omega) ?_;intro A6 c6 w2 ho2 hg3 _))
   go_roundw
   case rel=>exact⟨k+1,by omega,by simp,by rw[hsn.out];exact al2.next ho Hf4.out Hb4.out xN NT.out hb5 ho2 hg3⟩
   case measure=>simp[intOf];omega
  obtain rfl:k=n:=by omega
  have ht:Hid ((rows.map setOf).take k=rows.map setOf):=by show _=_;exact anN (by rw[anB,wQ.out];exact af _)
  rw[ht.out] at hf4;go_wp2;go_ret
  exact⟨_,rfl,A4,c4,hs4,rfl,ho,hf4,hb4⟩
theorem aas (n:Nat):(n==1)=((n:Int)==1):=by rw[Bool.eq_iff_iff];simp;omega
theorem Za (n:Nat):(n==0)=((n:Int)==0):=by rw[Bool.eq_iff_iff];simp
theorem Yy (w:World)(kind:Int)(A:Option Addr)(n c:Nat)(ws:List P3)(hr:RdT w dZ A n 3 (dD ws))(hl:∀x∈ws,x.2.2.length<=100000000)(hn:n<=1000000000):
  Calls Tryz.prog 135 #[.int .i64 kind,.slice A n c] w fun e w'=>e= .returned (.bool (eu kind (ag ws)))/\Below w.heap.size w w':=by
 have hlen:(ag ws).length=n:=by rw[iC];exact hr.rd.alH
 have hcall:=hd0 (PT w A n c ws hr hl hn);have hall:Hid (ws.all (fun x=>DR x.2.2)=yt (ag ws)):=by show _=_;rw[zX];rfl
 by_cases h4:kind=4
 ·have HR:Hid (eu kind (ag ws)=yt (ag ws)):=by show _=_;unfold eu;rw[if_pos h4]
  subst h4;clear hr hl hn hlen;go_enter Tryz.func135,Tryz.ntmps135
  go_wp2_with fail
  refine hcall.out.mono ?_;rintro e w1 ⟨rfl,hb⟩;go_wp2;go_ret
  rw[HR.out,hall.out];exact⟨rfl,hb⟩
 by_cases h6:kind=6
 ·have HR:Hid (eu kind (ag ws)=((n:Int)==1)):=by show _=_;unfold eu;rw[if_neg h4,if_pos h6,hlen,aas]
  subst h6;clear hr hl hn hlen hcall h4;go_enter Tryz.func135,Tryz.ntmps135
  go_wp2;go_ret
  rw[HR.out];exact⟨rfl,ant _ _⟩
 by_cases h7:kind=7\/kind=8
 ·have HR:Hid (eu kind (ag ws)=((n:Int)==0)):=by show _=_;unfold eu;rw[if_neg h4,if_neg h6,if_pos h7,hlen,Za]
  clear hr hl hn hlen hcall h4 h6;rcases h7 with rfl|rfl
  all_goals
   go_enter Tryz.func135,Tryz.ntmps135
   go_wp2;go_ret
   rw[HR.out];exact⟨rfl,ant _ _⟩
 have HR:Hid (eu kind (ag ws)=true):=by show _=_;unfold eu;rw[if_neg h4,if_neg h6,if_neg h7]
 have e4:(kind==4)=false:=by simpa using h4
 have e6:(kind==6)=false:=by simpa using h6
 have e7:(kind==7)=false:=by simp;omega
 have e8:(kind==8)=false:=by simp;omega
 clear hr hl hn hlen hcall h4 h6 h7;go_enter Tryz.func135,Tryz.ntmps135
 go_wp2;go_ret
 rw[HR.out];exact⟨rfl,ant _ _⟩
end
end Go.Proofs.YtkijckccfookeaaGreatDoor
