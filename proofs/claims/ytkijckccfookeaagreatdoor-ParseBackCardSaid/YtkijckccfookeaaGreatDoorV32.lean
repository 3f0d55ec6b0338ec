/- Lemmas. -/
import Derived.Test.YtkijckccfookeaaGreatDoorV30
set_option linter.unusedVariables false
set_option linter.unusedSimpArgs false
set_option maxRecDepth 100000
set_option maxHeartbeats 32000000
namespace Go.Proofs.YtkijckccfookeaaGreatDoor
open Go.RowKit
section
attribute [-go_sem] Builtin.append_
theorem ZN (w:World)(m:Nat)(fs:Nat->Value)(lp:Int)(G:Nat)(Ag:Option Addr)(cg:Nat)(Ac:Option Addr)(nc cc:Nat)(h:Mk w m fs lp)(hf:fs 1= .slice Ag G cg)(h1:1<=G)(hG:G<=1000):Calls Tryz.prog 108 #[.pointer (some ⟨m,0,none⟩),.int .i64 6,.slice Ac nc cc] w (lD w m fs lp G 6):=by
 have hmw:=h.lt;have qg:w.cell? ⟨m,3,none⟩=some (.slice Ag G cg):=by have:=h.cells.1 1 (by omega);rw[hf] at this;exact this
 have H:=hd0 h;have HF:=hd0 hf;clear h hf;go_enter Tryz.func108,Tryz.ntmps108
 go_wp2_with fail
 obtain⟨W0,hW0⟩:∃W0,(w.alloc (.cells fO dC)).alloc (.cells fO dC)=W0:=⟨_,rfl⟩
 have HR:Hid (RS w m fs lp fO W0):=by rw[<-hW0];exact hd0 (RS.begin H.out)
 have z0:W0.heap.size=w.heap.size+2:=by rw[<-hW0];simp
 unfold fO at hW0;rw[hW0];clear hW0 qg;refine(qX W0 m fs lp G Ag cg HR.out.mkr HF.out h1 hG).mono ?_;rintro e w1 ⟨s,As,cs,hs,hs1,rfl,hsl,hm1,hv1⟩;have HR1:=hd0 (HR.out.next hm1 hv1);have HF9:=hd0 (Frz.of anO.ok hsl);have HS:=hd0 hs;have z1:=hv1.size;have x1:w1.cell? ⟨w.heap.size+1,1,none⟩=some (.slice none 0 0):=HR1.out.cell 1;have y1:=HR1.out.var.frozen 1;have zr:=HR1.out.var.lt;clear hsl hm1 hv1 HR hs;go_wp2_with fail
 obtain⟨W2,hW2⟩:∃W2,(w1.setCell ⟨w.heap.size+1,1,none⟩ (.slice (some ⟨w1.heap.size,0,none⟩) 1 1)).alloc (.cells #[.slice As s.length cs] tRow)=W2:=⟨_,rfl⟩
 rw[hW2];obtain⟨hR2,hF2,hO2,z2⟩:=HR1.out.in0 hmw HF9.out (by omega) (by omega) hW2;have HR2:=hd0 hR2;have F2:=hd0 hF2;have O2:=hd0 hO2;clear hR2 hF2 hO2 hW2 x1 y1 HR1 HF9;have x2:W2.cell? ⟨w.heap.size+1,1,none⟩=some (.slice (some ⟨w1.heap.size,0,none⟩) 1 1):=HR2.out.cell 1;have jk:w.heap.size+1≠m:=by omega
 have bU:True:=trivial
 first|(go_region_with (go_at_call 150;have _t:=bU;refine(qX _ m fs lp G Ag cg (by exact HR2.out.drew.mkr) HF.out h1 hG).mono ?_;rintro e w3 ⟨t,At,ct,ht,ht1,rfl,htl,bF,hv3⟩;have x3:=dK hv3 jk x2;have HR3:=HR2.out.drew.next bF hv3;have z3:=hv3.size;have FY:=HR3.var.lt;have o3:=(Sp.next HR2.out.drew.mkr hv3).own (show W2.drew.ownsRow (w.heap.size+2) tRow 1 (.slice (some ⟨w1.heap.size,0,none⟩) 1 1) 1 [.slice As s.length cs] from O2.out) (by decide);have F3:=hd0 (Frz.next anO.ok (show Sl anO 1 W2.drew (TR [aY] W0.heap.size w1.heap.size W2.drew) As s from F2.out) (by omega) hv3);have FT:=hd0 (Frz.of anO.ok htl);have z3':W2.heap.size<=w3.heap.size:=z3;obtain⟨A5,c5,w9,hrun,x9,y9,aB,aZ,h9⟩:=HR3.more hmw GX (by decide) (by decide) (j:=1) (by omega) (by omega) rfl o3 #[.slice At t.length ct] rfl (by simp[Value.oneCell']) (by omega);have HG9:=hd0 aB;have kU:=hd0 aZ;have iH:=hd0 h9;have HT:=hd0 ht;clear _t bU HR3 o3 aB aZ h9 htl ht ht1))|fail
 all_goals
  have pW:Hid (RS w m fs lp #[.slice none 0 0,.slice A5 2 c5,.slice none 0 0,.slice none 0 0,.slice none 0 0,.int .i64 0] (w9.setCell ⟨w.heap.size+1,1,none⟩ (.slice A5 2 c5))):=hd0 (iH.out.put hmw 1 _);have OIa:=hd0 ((Sp.set iH.out.var (show m<=w.heap.size+1 by omega) 1 (.slice A5 2 c5)).own kU.out (by decide));have FSa:=hd0 (Frz.put anO.ok (Frz.row anO.ok F3.out HG9.out (fun x hx=>by simp[Value.ownBlock] at hx;exact .inr (by omega))) (g:=w.heap.size+1) (.inl (by omega)) 1 (.slice A5 2 c5));have FTa:=hd0 (Frz.put anO.ok (Frz.row anO.ok FT.out HG9.out (fun x hx=>by simp[Value.ownBlock] at hx;exact .inl (by simp;omega))) (g:=w.heap.size+1) (.inl (by simp;omega)) 1 (.slice A5 2 c5));have zd:W2.drew.heap.size=w1.heap.size+1:=z2;obtain⟨Wa,hWa⟩:∃Wa,w9.setCell ⟨w.heap.size+1,1,none⟩ (.slice A5 2 c5)=Wa:=⟨_,rfl⟩
  rw[hWa] at pW OIa FSa FTa ⊢;clear hWa HG9 kU iH F3 FT hrun x9 y9 x3;go_wp2_with fail
  refine(aC Wa m fs lp 41 pW.out.mkr (by omega) (by omega)).mono ?_;rintro e wb ⟨x,hx,rfl,hmb,hvb⟩;have pI:=hd0 (pW.out.next hmb hvb);have OIb:=hd0 ((Sp.next pW.out.mkr hvb).own OIa.out (by decide));have FSb:=hd0 (Frz.next anO.ok FSa.out (by omega) hvb);have FTb:=hd0 (Frz.next anO.ok FTa.out (by omega) hvb);clear hmb hvb pW OIa FSa FTa;have v5:wb.cell? ⟨w.heap.size+1,5,none⟩=some (.int .i64 0):=pI.out.cell 5;have y5:=pI.out.var.frozen 5;have v0:wb.cell? ⟨w.heap.size+1,0,none⟩=some (.slice none 0 0):=pI.out.cell 0;have v1:wb.cell? ⟨w.heap.size+1,1,none⟩=some (.slice A5 2 c5):=pI.out.cell 1;have v2:wb.cell? ⟨w.heap.size+1,2,none⟩=some (.slice none 0 0):=pI.out.cell 2;have v3:wb.cell? ⟨w.heap.size+1,3,none⟩=some (.slice none 0 0):=pI.out.cell 3;have v4:wb.cell? ⟨w.heap.size+1,4,none⟩=some (.slice none 0 0):=pI.out.cell 4;have r0:wb.cell? ⟨w.heap.size,0,none⟩=some (.slice none 0 0):=pI.out.res.cell 0;have r1:wb.cell? ⟨w.heap.size,1,none⟩=some (.slice none 0 0):=pI.out.res.cell 1;have r2:wb.cell? ⟨w.heap.size,2,none⟩=some (.slice none 0 0):=pI.out.res.cell 2;have r3:wb.cell? ⟨w.heap.size,3,none⟩=some (.slice none 0 0):=pI.out.res.cell 3;have r4:wb.cell? ⟨w.heap.size,4,none⟩=some (.slice none 0 0):=pI.out.res.cell 4;have r5:wb.cell? ⟨w.heap.size,5,none⟩=some (.int .i64 0):=pI.out.res.cell 5;have f0:=pI.out.res.frozen 0;have f1:=pI.out.res.frozen 1;have f2:=pI.out.res.frozen 2;have f3:=pI.out.res.frozen 3;have f4:=pI.out.res.frozen 4;have f5:=pI.out.res.frozen 5;go_wp2_with fail
  have Yn:RS w m fs lp #[.slice none 0 0,.slice A5 2 c5,.slice none 0 0,.slice none 0 0,.slice none 0 0,.int .i64 ((x:Int)*10 - 200)] (wb.setCell ⟨w.heap.size+1,5,none⟩ (.int .i64 ((x:Int)*10 - 200))):=pI.out.put hmw 5 _;have spc:=Sp.set (m:=m) pI.out.var (show m<=w.heap.size+1 by omega) 5 (.int .i64 ((x:Int)*10 - 200));have OIc:=spc.own OIb.out (by decide);have FSc:=Frz.typed anO.ok (Frz.put anO.ok FSb.out (g:=w.heap.size+1) (.inl (by omega)) 5 (.int .i64 ((x:Int)*10 - 200))) (ts':=jf) (base:=w.heap.size) (by decide) (by omega);have FTc:=Frz.typed anO.ok (Frz.put anO.ok FTb.out (g:=w.heap.size+1) (.inl (by omega)) 5 (.int .i64 ((x:Int)*10 - 200))) (ts':=jf) (base:=w.heap.size) (by decide) (by omega);obtain⟨Wc,hWc⟩:∃Wc,wb.setCell ⟨w.heap.size+1,5,none⟩ (.int .i64 ((x:Int)*10 - 200))=Wc:=⟨_,rfl⟩
  rw[hWc] at Yn OIc FSc FTc;have hfl:Fl anN 1 Wc (TS jf w.heap.size Wc) [.slice As s.length cs,.slice At t.length ct] [s,t]:=(Fl.one (R:=anN) ⟨As,cs,rfl,FSc⟩ rfl).append (Fl.one (R:=anN) ⟨At,ct,rfl,FTc⟩ rfl);have hr:aob G 6 ⟨[],[s,t],[],[],[],(x:Int)*10 - 200⟩:=aob.mk' (.nil _ _) (((anW.one HS.out).app (anW.one HT.out)).mono (by omega)) (.nil _ _) (by simp) (by simp) (show N9 ((x:Int)*10 - 200) from by unfold N9;omega) (fun h=>absurd h (by decide)) (fun _=>rfl) (fun _=>rfl) (fun h=>absurd rfl h);have hfin:=jJ (G:=G) (kind:=6) (r:=⟨[],[s,t],[],[],[],(x:Int)*10 - 200⟩) (A0:=none) (A1:=A5) (A2:=none) (A3:=none) (A4:=none) (c0:=0) (c1:=c5) (c2:=0) (c3:=0) (c4:=0) Yn hmw hr (show I64 ((x:Int)*10 - 200) from by unfold I64;omega) Sl.nil (dJ OIc hfl (by decide) (by omega) (by omega)) Sl.nil Sl.nil Sl.nil;rw[<-hWc] at hfin;exact bodyPost_ret (dV hfin.1 rfl rfl) rfl hfin.2
end
section
attribute [-go_sem] Builtin.append_
theorem aoI.start (w:World)(ws:List P3):aoI w ws 0 0 ((w.alloc (.cells #[.slice none 0 0,.slice none 0 0,.slice none 0 0,.slice none 0 0] iU)).alloc (.cells #[.string ⟨#[47]⟩,.string ⟨#[47]⟩,.string ⟨#[62]⟩] vN)):=by
 have h1:Bk (w.alloc (.cells #[.slice none 0 0,.slice none 0 0,.slice none 0 0,.slice none 0 0] iU)) w.heap.size iU (dH [] (.slice none 0 0)):=Bk.new _ _ _;have h2:=h1.alloc (.cells #[.string ⟨#[47]⟩,.string ⟨#[47]⟩,.string ⟨#[62]⟩] vN);have h3:Bk ((w.alloc (.cells #[.slice none 0 0,.slice none 0 0,.slice none 0 0,.slice none 0 0] iU)).alloc (.cells #[.string ⟨#[47]⟩,.string ⟨#[47]⟩,.string ⟨#[62]⟩] vN)) (w.heap.size+1) vN uo:=by have:=Bk.new (w.alloc (.cells #[.slice none 0 0,.slice none 0 0,.slice none 0 0,.slice none 0 0] iU)) vN uo;simpa [uo] using this
 refine⟨[],[],[],none,0,_,rfl,rfl,by omega,by simp,rfl,?_,by simp,RowsIn.nil _ _,World.grownBy.refl _ _,World.ownsRow_nil _ _ _ _,h2,h3,⟨_,h2⟩⟩;exact((aqk _ _).alloc (ag _) _).alloc (by simp) _
theorem RowsIn.slices {t:TypeId}{w:World}{hs:List Value}{rows:List (List P3)}(h:RowsIn t w hs rows):∀u∈hs,∃A n c,u= .slice A n c:=by
 intro u hu;obtain⟨i,hi⟩:=aqG.1 hu;have hl:i<rows.length:=by rw[<-h.1];exact(aqm.1 hi).1
 obtain⟨A,k,c,h1,-,-⟩:=h.2 i rows[i] (aqn hl);rw[hi] at h1;cases h1;exact⟨A,k,c,rfl⟩
theorem Lr (hs:List Value)(A:Option Addr)(n c:Nat)(h:hs.length<=3)(hsl:∀u∈hs,∃A n c,u=Value.slice A n c):∃A0 n0 c0 A1 n1 c1 A2 n2 c2 A3 n3 c3,dH hs (.slice A n c)= #[.slice A0 n0 c0,.slice A1 n1 c1,.slice A2 n2 c2,.slice A3 n3 c3]:=by
 obtain⟨a,b,c',d,e⟩:=abx hs (.slice A n c) h;have hall:∀u∈(dH hs (.slice A n c)).toList,∃A n c,u=Value.slice A n c:=by
  intro u hu;simp only[dH,aqp,aql,List.mem_replicate] at hu;rcases hu with(hu|rfl)|⟨_,rfl⟩
  ·exact hsl u hu
  ·exact⟨_,_,_,rfl⟩
  exact⟨_,_,_,rfl⟩
 rw[e] at hall;obtain⟨A0,n0,c0,rfl⟩:=hall a (by simp);obtain⟨A1,n1,c1,rfl⟩:=hall b (by simp);obtain⟨A2,n2,c2,rfl⟩:=hall c' (by simp);obtain⟨A3,n3,c3,rfl⟩:=hall d (by simp);exact⟨_,_,_,_,_,_,_,_,_,_,_,_,e⟩
theorem Qz {W:World}{g:Nat}{t:TypeId}{a b c d:Value}(h:Bk W g t #[a,b,c,d]):Bk ((((W.setCell ⟨g,0,none⟩ a).setCell ⟨g,1,none⟩ b).setCell ⟨g,2,none⟩ c).setCell ⟨g,3,none⟩ d) g t #[a,b,c,d]:=by have:=(((h.set 0 a).set 1 b).set 2 c).set 3 d;simpa using this
theorem Iw {w W:World}{g:Nat}(h:Below w.heap.size w W)(hg:w.heap.size<=g)(a b c d:Value):Below w.heap.size w ((((W.setCell ⟨g,0,none⟩ a).setCell ⟨g,1,none⟩ b).setCell ⟨g,2,none⟩ c).setCell ⟨g,3,none⟩ d):=(((h.setCell hg a).setCell hg b).setCell hg c).setCell hg d
theorem Yb (W:World)(g:Nat)(a b c d:Value):W.grownBy ((((W.setCell ⟨g,0,none⟩ a).setCell ⟨g,1,none⟩ b).setCell ⟨g,2,none⟩ c).setCell ⟨g,3,none⟩ d) (some g):=cZ (cZ (cZ (dF W ⟨g,0,none⟩ a) (dF _ ⟨g,1,none⟩ b)) (dF _ ⟨g,2,none⟩ c)) (dF _ ⟨g,3,none⟩ d)
theorem adi:(Tryz.prog.info? iU).map (·.size)=some 4:=by kernel_rfl
theorem yx {W:World}{g:Nat}{a b c d v:Value}{tmps:Array Value}(hb:Bk W g iU #[a,b,c,d])(h2:tmps.getD 2 undef= .pointer (some ⟨g,0,none⟩))(h3:tmps.getD 3 undef=v):(results Tryz.f134 tmps).run Tryz.prog W= .ok (.tuple #[.agg #[a,b,c,d],v]) W:=by rw[results_cell_tmp (fn:=Tryz.f134) (p:=2) (u:=3) (ty:=iU) rfl,h2,h3];have:=run_loadVar_row (P:=Tryz.prog) W g iU iU #[a,b,c,d] (0,0) _ hb Tryz.underlying208 rfl (by rw[adi];rfl);simp[asAddr,Result.andThen,this]
theorem Vk (w:World)(A:Option Addr)(n c:Nat)(ws:List P3)(hr:RdT w dX A n 3 (dD ws))(hn:n<=1000000000):
  Calls Tryz.prog 134 #[.slice A n c] w (UH w ws):=by
 have hwl:=hd0 hr.rd.aoE;have HW:=hd0 hr;have HS:=hd0 (aoI.start w ws);clear hr;go_enter Tryz.func134,Tryz.ntmps134
 go_wp2_with fail
 go_loopw [5,11] (fun pv i wr=>∃k np:Nat,k<=n/\i= .int .i64 k/\pv= .int .i64 np/\aoI w ws k np wr) (fun _ i _=>n - (intOf i).toNat)
 case atStart=>exact⟨0,0,by omega,rfl,rfl,HS.out⟩
 case round=>
  obtain⟨k,np,hk,rfl,rfl,hst⟩:=hrel;have hlow:=hst.low;obtain⟨told,hs,cur,A1,c1,Wo,h1,h2,h3,h4,h5,h6,h7,h8,h9,h10,h11,h12,cs0,h13⟩:=hst;by_cases hlt:k<n
  ·obtain⟨b,o,x,y,z,rfl,hb,hp,q1,q2,q3⟩:=HW.out.rd.at3 hlt;have p1:wr.cell? ⟨b,o+k*3,none⟩=some (.int .i64 x):=((af hlow).1 _ _ hb).trans q1;have p2:wr.cell? ⟨b,o+k*3+1,none⟩=some (.int .i64 y):=((af hlow).1 _ _ hb).trans q2;have p3:wr.cell? ⟨b,o+k*3+2,none⟩=some (.string ⟨z.toArray⟩):=((af hlow).1 _ _ hb).trans q3;have a_n:wr.cell? ⟨w.heap.size,np,none⟩=some (.slice A1 cur.length c1):=(h11.cell np).trans (by rw[<-h1];exact TW hs _);have hsw:w.heap.size<wr.heap.size:=h11.lt;have hn4:(np:Int)<4:=by omega
   by_cases hA:z≠[47]/\z≠[62]
   ·have e1:(z==[47])=false:=by simpa using hA.1
    have e2:(z==[62])=false:=by simpa using hA.2
    obtain⟨A5,c5,w9,hrun,aZ,aB,bD⟩:=iw afx 119 (wr.alloc (.cells #[.int .i64 x,.int .i64 y,.string ⟨z.toArray⟩] dX)) Wo.heap.size cur.length c1 A1 (dD cur) #[.int .i64 x,.int .i64 y,.string ⟨z.toArray⟩] rfl (h10.alloc _) (by simp[Value.oneCell']) (by omega) (by have:=h9.size;simp;omega);have hszA:(wr.alloc (.cells #[.int .i64 x,.int .i64 y,.string ⟨z.toArray⟩] dX)).heap.size=wr.heap.size+1:=by simp
    rw[hszA] at hrun;have Hnx:=hd0 (aoI.more h1 h2 h3 h4 h5 h6 h7 h8 h9 h10 h11 h12 hp.out hA.1 hA.2 _ aZ aB h13);have b9:Bk w9 w.heap.size iU (dH hs (.slice A1 cur.length c1)):=Bk.grown (h11.alloc _) aB (h10.alloc _) (by decide);have x9:w9.cell? ⟨w.heap.size,np,none⟩=some (.slice A1 cur.length c1):=(b9.cell np).trans (by rw[<-h1];exact TW hs _);have y9:=b9.frozen np;clear hszA aZ aB bD b9 h1 h2 h4 h5 h6 h7 h8 h9 h10 h11 h12 h13 hA hp hlow q1 q2 q3;go_wp2_with fail
    go_region
    all_goals
     go_wp2;go_roundw
     case rel=>exact⟨k+1,np,by omega,by simp,rfl,Hnx.out⟩
     case measure=>simp[intOf];omega
   have q0:z=[47]\/z=[62]:=by
    by_cases hz:z=[47]
    ·exact .inl hz
    exact .inr (Classical.byContradiction fun h=>hA ⟨hz,h⟩)
   have zL:Below w.heap.size w (wr.alloc (.cells #[.int .i64 x,.int .i64 y,.string ⟨z.toArray⟩] dX)):=hlow.alloc (by omega) _;have FI:np<3->wr.cell? ⟨w.heap.size+1,np,none⟩=some (.string ⟨(if np<2 then [47] else [62]:B).toArray⟩):=fun h=>by
    rw[h12.cell np];have:np=0\/np=1\/np=2:=by omega
    rcases this with rfl|rfl|rfl<;>rfl
   obtain⟨X0,m0,e0,X1,m1,e1',X2,m2,e2',X3,m3,e3',hcs⟩:=Lr hs A1 cur.length c1 (by omega) h8.slices;have g0:wr.cell? ⟨w.heap.size,0,none⟩=some (.slice X0 m0 e0):=(h11.cell 0).trans (by rw[hcs];rfl);have g1:wr.cell? ⟨w.heap.size,1,none⟩=some (.slice X1 m1 e1'):=(h11.cell 1).trans (by rw[hcs];rfl);have g2:wr.cell? ⟨w.heap.size,2,none⟩=some (.slice X2 m2 e2'):=(h11.cell 2).trans (by rw[hcs];rfl);have g3:wr.cell? ⟨w.heap.size,3,none⟩=some (.slice X3 m3 e3'):=(h11.cell 3).trans (by rw[hcs];rfl);have gf:=h11.frozen;have tN:=hd0 hlow;have ahU:=hd0 zL;by_cases hm:(np<2/\z=[47])\/(np=2/\z=[62])
   ·have hnp:np<3:=by rcases hm with⟨h,_⟩|⟨h,_⟩<;>omega
    have Uc:=FI hnp;have aj1:w.heap.size+1<wr.heap.size:=h12.lt;have HD:Hid (∀nd,aoI w ws (k+1) (np+1) ((wr.alloc (.cells #[.int .i64 x,.int .i64 y,.string ⟨z.toArray⟩] dX)).drewN nd)):=fun nd=>aoI.next h1 h2 h5 h6 h7 h8 h9 h10 h11 h12 h13 hp.out hm (below_drewN ((aqk _ _).alloc (ag _) _) nd)
    have hn3:((np:Int)==3)=false:=by simp;omega
    rcases hm with⟨hm1,rfl⟩|⟨rfl,rfl⟩
    ·rw[if_pos hm1] at Uc;clear hm1 FI h1 h2 h4 h5 h6 h7 h8 h9 h10 h11 h12 h13 hA hp hlow zL q1 q2 q3 q0 hcs;go_wp2_with fail
     go_quiet (fail)
     go_wp2;go_roundw
     case rel=>exact⟨k+1,_,by omega,by simp,by simp,HD.out nq⟩
     case measure=>simp[intOf];omega
    rw[if_neg (by decide)] at Uc;clear hnp FI h1 h2 h4 h5 h6 h7 h8 h9 h10 h11 h12 h13 hA hp hlow zL q1 q2 q3 q0 hcs;go_wp2_with fail
    go_quiet (fail)
    go_wp2;go_roundw
    case rel=>exact⟨k+1,_,by omega,by simp,by simp,HD.out nq⟩
    case measure=>simp[intOf];omega
   have HN:=hd0 (aes h5 hp.out q0 hm);have HB4:Hid (∀nd,Bk ((wr.alloc (.cells #[.int .i64 x,.int .i64 y,.string ⟨z.toArray⟩] dX)).drewN nd) w.heap.size iU #[.slice X0 m0 e0,.slice X1 m1 e1',.slice X2 m2 e2',.slice X3 m3 e3']):=fun nd=>by rw[<-hcs];exact h11.alloc _
   have hcases:(np=3/\(z=[47]\/z=[62]))\/(np<2/\z=[62])\/(np=2/\z=[47]):=by
    by_cases h3e:np=3
    ·exact .inl ⟨h3e,q0⟩
    by_cases h2e:np=2
    ·rcases q0 with h|h
     ·exact .inr (.inr ⟨h2e,h⟩)
     exact absurd (.inr ⟨h2e,h⟩) hm
    rcases q0 with h|h
    ·exact absurd (.inl ⟨by omega,h⟩) hm
    exact .inr (.inl ⟨by omega,h⟩)
   have aj1:w.heap.size+1<wr.heap.size:=h12.lt;have fin2:∀nd tmps,tmps.getD 2 undef= .pointer (some ⟨w.heap.size,0,none⟩)->tmps.getD 3 undef= .bool false->bodyPost Tryz.prog Tryz.f134 (UH w ws) Exit.ret ⟨tmps,[]⟩ (((((((wr.alloc (.cells #[.int .i64 x,.int .i64 y,.string ⟨z.toArray⟩] dX)).drewN nd).setCell ⟨w.heap.size,0,none⟩ (.slice X0 m0 e0)).setCell ⟨w.heap.size,1,none⟩ (.slice X1 m1 e1')).setCell ⟨w.heap.size,2,none⟩ (.slice X2 m2 e2')).setCell ⟨w.heap.size,3,none⟩ (.slice X3 m3 e3'))):=fun nd tmps t2 t3=>by
    refine bodyPost_ret (yx (Qz (HB4.out nd)) t2 t3) rfl ⟨Iw (below_drewN ahU.out nd) (ag _) _ _ _ _,X0,m0,e0,X1,m1,e1',X2,m2,e2',X3,m3,e3',?_⟩;rw[HN.out]
   have FIN:=hd0 fin2;rcases hcases with⟨rfl,rfl|rfl⟩|⟨h1n,rfl⟩|⟨rfl,rfl⟩
   ·skip
    clear fin2 FI h1 h2 h4 h5 h6 h7 h8 h9 h10 h11 h12 h13 hA hp hlow zL q1 q2 q3 q0 hcs hm;go_wp2_with fail
    go_quiet (fail)
    go_wp2
    (try simp only[Exit.inBlock,Exit.then])
    exact FIN.out nq _ rfl rfl
   ·skip
    clear fin2 FI h1 h2 h4 h5 h6 h7 h8 h9 h10 h11 h12 h13 hA hp hlow zL q1 q2 q3 q0 hcs hm;go_wp2_with fail
    go_quiet (fail)
    go_wp2
    (try simp only[Exit.inBlock,Exit.then])
    exact FIN.out nq _ rfl rfl
   ·skip
    have hn3:((np:Int)==3)=false:=by simp;omega
    have Uc:=FI (by omega);rw[if_pos h1n] at Uc;clear fin2 FI h1 h2 h4 h5 h6 h7 h8 h9 h10 h11 h12 h13 hA hp hlow zL q1 q2 q3 q0 hcs hm;go_wp2_with fail
    go_quiet (fail)
    go_wp2
    (try simp only[Exit.inBlock,Exit.then])
    exact FIN.out nq _ rfl rfl
   skip
   have Uc:=FI (by omega);rw[if_neg (by decide)] at Uc;clear fin2 FI h1 h2 h4 h5 h6 h7 h8 h9 h10 h11 h12 h13 hA hp hlow zL q1 q2 q3 q0 hcs hm;go_wp2_with fail
   go_quiet (fail)
   go_wp2
   (try simp only[Exit.inBlock,Exit.then])
   exact FIN.out nq _ rfl rfl
  obtain rfl:k=n:=by omega
  have hend:=ad4 h5 (by rw[hwl.out];exact ag _);obtain⟨X0,m0,e0,X1,m1,e1',X2,m2,e2',X3,m3,e3',hcs⟩:=Lr hs A1 cur.length c1 (by omega) h8.slices;have g0:wr.cell? ⟨w.heap.size,0,none⟩=some (.slice X0 m0 e0):=(h11.cell 0).trans (by rw[hcs];rfl);have g1:wr.cell? ⟨w.heap.size,1,none⟩=some (.slice X1 m1 e1'):=(h11.cell 1).trans (by rw[hcs];rfl);have g2:wr.cell? ⟨w.heap.size,2,none⟩=some (.slice X2 m2 e2'):=(h11.cell 2).trans (by rw[hcs];rfl);have g3:wr.cell? ⟨w.heap.size,3,none⟩=some (.slice X3 m3 e3'):=(h11.cell 3).trans (by rw[hcs];rfl);have gf:=h11.frozen;have hb4:Bk wr w.heap.size iU #[.slice X0 m0 e0,.slice X1 m1 e1',.slice X2 m2 e2',.slice X3 m3 e3']:=by rw[<-hcs];exact h11
  have HB4:=hd0 hb4;have tN:=hd0 hlow;have hrows:np=3->RowsIn dX wr [.slice X0 m0 e0,.slice X1 m1 e1',.slice X2 m2 e2',.slice X3 m3 e3'] (told++[cur]):=fun h3e=>by
   have:(dH hs (.slice A1 cur.length c1)).toList=hs++[.slice A1 cur.length c1]:=by simp[dH,h1,h3e]
   rw[hcs] at this;have this:[.slice X0 m0 e0,.slice X1 m1 e1',.slice X2 m2 e2',.slice X3 m3 e3']=hs++[.slice A1 cur.length c1]:=this;rw[this];exact(h8.keepW h13 h9 (by decide)).snoc (kH h10) (vZ h10)
  have ahg:=hd0 hrows;have Xt:=hd0 hend;by_cases h3e:np=3
  ·have Vl:Hid (kK ws=some (told++[cur])):=by show _=_;rw[Xt.out,if_pos h3e]
   subst h3e;clear hrows hend hb4 hcs h1 h2 h4 h5 h6 h7 h8 h9 h10 h11 h12 h13 hlow;go_wp2_with fail
   (try simp only[Exit.inBlock,Exit.then])
   refine bodyPost_ret (yx (Qz HB4.out) rfl rfl) rfl ⟨Iw tN.out (ag _) _ _ _ _,X0,m0,e0,X1,m1,e1',X2,m2,e2',X3,m3,e3',?_⟩;rw[Vl.out];exact⟨rfl,(ahg.out trivial).keepW HB4.out (Yb _ _ _ _ _ _) (by decide)⟩
  have hn3:((np:Int)==3)=false:=by simp;omega
  have Vl:Hid (kK ws=none):=by show _=_;rw[Xt.out,if_neg h3e]
  clear hrows hend hb4 hcs h1 h2 h4 h5 h6 h7 h8 h9 h10 h11 h12 h13 hlow h3e;go_wp2_with fail
  (try simp only[Exit.inBlock,Exit.then])
  refine bodyPost_ret (yx (Qz HB4.out) rfl rfl) rfl ⟨Iw tN.out (ag _) _ _ _ _,X0,m0,e0,X1,m1,e1',X2,m2,e2',X3,m3,e3',?_⟩;rw[Vl.out];rfl
end
section
abbrev jA:TypeId:=59
abbrev vU:TypeId:=87
abbrev vS:TypeId:=89
abbrev nP:TypeId:=91
abbrev Il:TypeId:=63
def V8 (x:Part):List Value:=[.int .i64 x.anX,.int .i64 x.x,.int .i64 x.y]
def FX (l:List Part):List Value:=l.flatMap V8
theorem aaU (w:World)(S:Bs)(l:List Part)(h:∀x∈l,I64 x.anX/\I64 x.x/\I64 x.y):Fl aog 3 w S (FX l) l:=tX w S V8 l (fun _ _=>rfl) (fun x hx=>⟨rfl,h x hx⟩)
def WP (x:an8):List Value:=[.int .i64 x.kind,.int .i64 x.cls,.int .i64 x.x,.int .i64 x.y]
def Gn (l:List an8):List Value:=l.flatMap WP
theorem abD (w:World)(S:Bs)(l:List an8)(h:∀x∈l,I64 x.kind/\I64 x.cls/\I64 x.x/\I64 x.y):Fl an2 4 w S (Gn l) l:=tX w S WP l (fun _ _=>rfl) (fun x hx=>⟨rfl,h x hx⟩)
def Vq (x:Delta):List Value:=[.int .i64 x.region,.int .i64 x.point,.int .i64 x.x,.int .i64 x.y]
def Hz (l:List Delta):List Value:=l.flatMap Vq
theorem abn (w:World)(S:Bs)(l:List Delta)(h:∀x∈l,I64 x.region/\I64 x.point/\I64 x.x/\I64 x.y):Fl an6 4 w S (Hz l) l:=tX w S Vq l (fun _ _=>rfl) (fun x hx=>⟨rfl,h x hx⟩)
structure GV (w:World)(m gb:Nat)(kb:Nat)(K:Option (Array Value))(fs:Nat->Value)(lp:Int)(cs:Array Value)(p:List Pt)(A3:Option Addr)(es:List Int)(A4:Option Addr)(pa:List Part)(A5:Option Addr)(c5:Nat)(an:List an8)(A6:Option Addr)(c6:Nat)(de:List Delta)(A7:Option Addr)(c7:Nat)(wr:World):Prop where
 mkr:Mk wr m fs lp
 var:Bk wr gb jA cs
 pts:Sl PtR 3 wr (TS [yP,aY] w.heap.size wr) A3 p
 ends:Sl anO 1 wr (TS [yP,aY] w.heap.size wr) A4 es
 pas:wr.ownsRow w.heap.size vU 3 (.slice A5 pa.length c5) pa.length (FX pa)
 ans:wr.ownsRow w.heap.size vS 4 (.slice A6 an.length c6) an.length (Gn an)
 des:wr.ownsRow w.heap.size nP 4 (.slice A7 de.length c7) de.length (Hz de)
 mv:Mv m w wr
 kin:∀c,K=some c->Bk wr kb Il c
section
variable {w:World} {m gb kb:Nat} {K:Option (Array Value)} {fs:Nat->Value} {lp:Int} {cs:Array Value} {p:List Pt} {A3:Option Addr} {es:List Int} {A4:Option Addr} {pa:List Part} {A5:Option Addr} {c5:Nat} {an:List an8} {A6:Option Addr} {c6:Nat} {de:List Delta} {A7:Option Addr} {c7:Nat} {wr w2:World}
theorem GV.next (h:GV w m gb kb K fs lp cs p A3 es A4 pa A5 c5 an A6 c6 de A7 c7 wr){fs2:Nat->Value}{lp2:Int}(hm:Mk w2 m fs2 lp2)(hv:Mv m wr w2):GV w m gb kb K fs2 lp2 cs p A3 es A4 pa A5 c5 an A6 c6 de A7 c7 w2:=by have s:=Sp.next h.mkr hv;exact⟨hm,s.bk h.var (by decide),s.sl PtR.ok (by decide) h.pts,s.sl anO.ok (by decide) h.ends,s.own h.pas (by decide),s.own h.ans (by decide),s.own h.des (by decide),gy h.mv hv,fun c hc=>s.bk (h.kin c hc) (by decide)⟩
theorem GV.below (h:GV w m gb kb K fs lp cs p A3 es A4 pa A5 c5 an A6 c6 de A7 c7 wr)(hb:Below wr.heap.size wr w2):GV w m gb kb K fs lp cs p A3 es A4 pa A5 c5 an A6 c6 de A7 c7 w2:=by have s:Sp m mY wr w2:=Sp.below hb;exact⟨h.mkr.below hb,s.bk h.var (by decide),s.sl PtR.ok (by decide) h.pts,s.sl anO.ok (by decide) h.ends,s.own h.pas (by decide),s.own h.ans (by decide),s.own h.des (by decide),jM h.mv hb,fun c hc=>s.bk (h.kin c hc) (by decide)⟩
theorem GV.drew (h:GV w m gb kb K fs lp cs p A3 es A4 pa A5 c5 an A6 c6 de A7 c7 wr):GV w m gb kb K fs lp cs p A3 es A4 pa A5 c5 an A6 c6 de A7 c7 wr.drew:=h.below (aqk _ _).drew
theorem GV.put (h:GV w m gb kb K fs lp cs p A3 es A4 pa A5 c5 an A6 c6 de A7 c7 wr)(hmw:m<w.heap.size)(hg:w.heap.size<=gb)(j:Nat)(u:Value):GV w m gb kb K fs lp (cs.setIfInBounds j u) p A3 es A4 pa A5 c5 an A6 c6 de A7 c7 (wr.setCell ⟨gb,j,none⟩ u):=by have s:Sp m jA wr (wr.setCell ⟨gb,j,none⟩ u):=Sp.set h.var (by omega) j u;exact⟨s.mk h.mkr (by decide),h.var.set j u,s.sl PtR.ok (by decide) h.pts,s.sl anO.ok (by decide) h.ends,s.own h.pas (by decide),s.own h.ans (by decide),s.own h.des (by decide),uB h.mv hg _ _,fun c hc=>s.bk (h.kin c hc) (by decide)⟩
theorem GV.aqi (h:GV w m gb kb K fs lp cs p A3 es A4 pa A5 c5 an A6 c6 de A7 c7 wr){p':List Pt}{B3:Option Addr}{es':List Int}{B4:Option Addr}{base:Nat}(hb:w.heap.size<=base)(h1:Sl PtR 3 wr (TS [yP,aY] base wr) B3 p')(h2:Sl anO 1 wr (TS [yP,aY] base wr) B4 es'):GV w m gb kb K fs lp cs p' B3 es' B4 pa A5 c5 an A6 c6 de A7 c7 wr:=⟨h.mkr,h.var,h1.ts PtR.ok (fun t h=>h) hb,h2.ts anO.ok (fun t h=>h) hb,h.pas,h.ans,h.des,h.mv,h.kin⟩
theorem GV.pairs (h:GV w m gb kb K fs lp cs p A3 es A4 pa A5 c5 an A6 c6 de A7 c7 wr){kb':Nat}{c:Array Value}(hb:Bk wr kb' Il c):GV w m gb kb' (some c) fs lp cs p A3 es A4 pa A5 c5 an A6 c6 de A7 c7 wr:=⟨h.mkr,h.var,h.pts,h.ends,h.pas,h.ans,h.des,h.mv,fun c' hc=>by injection hc with hc;rw[<-hc];exact hb⟩
theorem GV.box (h:GV w m gb kb K fs lp cs p A3 es A4 pa A5 c5 an A6 c6 de A7 c7 wr)(hmw:m<w.heap.size){db:Nat}{c:Array Value}(hb:Bk wr db nP c)(hdb:∀x,(Value.slice A7 de.length c7).ownBlock=some x->x<db)(hlo:w.heap.size<=db)(j:Nat)(u:Value):GV w m gb kb K fs lp cs p A3 es A4 pa A5 c5 an A6 c6 de A7 c7 (wr.setCell ⟨db,j,none⟩ u):=by
 have s:Sp m nP wr (wr.setCell ⟨db,j,none⟩ u):=Sp.set hb (by omega) j u;have hg:wr.grownBy (wr.setCell ⟨db,j,none⟩ u) (some db):=bn (World.grownBy.refl _ _) (.inl rfl) u;exact⟨s.mk h.mkr (by decide),s.bk h.var (by decide),s.sl PtR.ok (by decide) h.pts,s.sl anO.ok (by decide) h.ends,s.own h.pas (by decide),s.own h.ans (by decide),h.des.kept hg (by
  cases hx:(Value.slice A7 de.length c7).ownBlock with
  |none=>exact .inl rfl
  |some x=>exact .inr (fun e=>by injection e with e;have:=hdb x hx;omega)),uB h.mv hlo _ _,fun c hc=>s.bk (h.kin c hc) (by decide)⟩
theorem GV.apx (h:GV w m gb kb K fs lp cs p A3 es A4 pa A5 c5 an A6 c6 de A7 c7 wr)(hmw:m<w.heap.size)(hg:w.heap.size<=gb){n:Nat}(hn:pa.length=n)(hc:cs[5]? =some (.slice A5 n c5))(hl:n<=1000)(v1 v2 v3:Int):
  ∃B d w9,(Builtin.append_ #[54,54] 54 #[.slice A5 n c5,.slice (some ⟨wr.heap.size,0,none⟩) 1 1]).run Tryz.prog (wr.alloc (.cells #[.int .i64 v1,.int .i64 v2,.int .i64 v3] vU))= .ok (.slice B (n+1) d) w9/\
   w9.cell? ⟨gb,5,none⟩=some (.slice A5 n c5)/\w9.frozen? ⟨gb,5,none⟩=false/\gb<w9.heap.size/\(∀c,K=some c->Bk w9 kb Il c)/\GV w m gb kb K fs lp (cs.setIfInBounds 5 (.slice B (n+1) d)) p A3 es A4 (pa++[⟨v1,v2,v3⟩]) B d an A6 c6 de A7 c7 (w9.setCell ⟨gb,5,none⟩ (.slice B (n+1) d)):=by
 subst hn;obtain⟨B,d,w9,hrun,aZ,aB,bD⟩:=iG ZB 54 wr w.heap.size _ c5 A5 _ #[.int .i64 v1,.int .i64 v2,.int .i64 v3] rfl h.pas (by simp[Value.oneCell']) (by omega) h.mv.size;have s:Sp m vU wr w9:=Sp.push h.pas (by omega) aB;have v9:=s.bk h.var (by decide);have hn:(pa++[(⟨v1,v2,v3⟩:Part)]).length=pa.length+1:=by simp
 have ho:w9.ownsRow w.heap.size vU 3 (.slice B (pa++[(⟨v1,v2,v3⟩:Part)]).length d) (pa++[(⟨v1,v2,v3⟩:Part)]).length (FX (pa++[(⟨v1,v2,v3⟩:Part)])):=by rw[hn];simpa [FX,V8] using aZ
 have k:GV w m gb kb K fs lp cs p A3 es A4 (pa++[(⟨v1,v2,v3⟩:Part)]) B d an A6 c6 de A7 c7 w9:=⟨s.mk h.mkr (by decide),v9,s.sl PtR.ok (by decide) h.pts,s.sl anO.ok (by decide) h.ends,ho,s.own h.ans (by decide),s.own h.des (by decide),kE h.mv h.pas (ag _) aB,fun c hc=>s.bk (h.kin c hc) (by decide)⟩
 exact⟨B,d,w9,hrun,by rw[v9.cell,hc],v9.frozen 5,v9.lt,k.kin,k.put hmw hg 5 _⟩
theorem GV.apC (h:GV w m gb kb K fs lp cs p A3 es A4 pa A5 c5 an A6 c6 de A7 c7 wr)(hmw:m<w.heap.size)(hg:w.heap.size<=gb){n:Nat}(hn:an.length=n)(hc:cs[6]? =some (.slice A6 n c6))(hl:n<=1000)(v1 v2 v3 v4:Int):
  ∃B d w9,(Builtin.append_ #[55,55] 55 #[.slice A6 n c6,.slice (some ⟨wr.heap.size,0,none⟩) 1 1]).run Tryz.prog (wr.alloc (.cells #[.int .i64 v1,.int .i64 v2,.int .i64 v3,.int .i64 v4] vS))= .ok (.slice B (n+1) d) w9/\
   w9.cell? ⟨gb,6,none⟩=some (.slice A6 n c6)/\w9.frozen? ⟨gb,6,none⟩=false/\gb<w9.heap.size/\(∀c,K=some c->Bk w9 kb Il c)/\GV w m gb kb K fs lp (cs.setIfInBounds 6 (.slice B (n+1) d)) p A3 es A4 pa A5 c5 (an++[⟨v1,v2,v3,v4⟩]) B d de A7 c7 (w9.setCell ⟨gb,6,none⟩ (.slice B (n+1) d)):=by
 subst hn;obtain⟨B,d,w9,hrun,aZ,aB,bD⟩:=iG Yr 55 wr w.heap.size _ c6 A6 _ #[.int .i64 v1,.int .i64 v2,.int .i64 v3,.int .i64 v4] rfl h.ans (by simp[Value.oneCell']) (by omega) h.mv.size;have s:Sp m vS wr w9:=Sp.push h.ans (by omega) aB;have v9:=s.bk h.var (by decide);have hn:(an++[(⟨v1,v2,v3,v4⟩:an8)]).length=an.length+1:=by simp
 have ho:w9.ownsRow w.heap.size vS 4 (.slice B (an++[(⟨v1,v2,v3,v4⟩:an8)]).length d) (an++[(⟨v1,v2,v3,v4⟩:an8)]).length (Gn (an++[(⟨v1,v2,v3,v4⟩:an8)])):=by rw[hn];simpa [Gn,WP] using aZ
 have k:GV w m gb kb K fs lp cs p A3 es A4 pa A5 c5 (an++[(⟨v1,v2,v3,v4⟩:an8)]) B d de A7 c7 w9:=⟨s.mk h.mkr (by decide),v9,s.sl PtR.ok (by decide) h.pts,s.sl anO.ok (by decide) h.ends,s.own h.pas (by decide),ho,s.own h.des (by decide),kE h.mv h.ans (ag _) aB,fun c hc=>s.bk (h.kin c hc) (by decide)⟩
 exact⟨B,d,w9,hrun,by rw[v9.cell,hc],v9.frozen 6,v9.lt,k.kin,k.put hmw hg 6 _⟩
theorem GV.apf (h:GV w m gb kb K fs lp cs p A3 es A4 pa A5 c5 an A6 c6 de A7 c7 wr)(hmw:m<w.heap.size)(hg:w.heap.size<=gb){n:Nat}(hn:de.length=n)(hc:cs[7]? =some (.slice A7 n c7))(hl:n<=1000)(v1 v2 v3 v4:Int):
  ∃B d w9,(Builtin.append_ #[56,56] 56 #[.slice A7 n c7,.slice (some ⟨wr.heap.size,0,none⟩) 1 1]).run Tryz.prog (wr.alloc (.cells #[.int .i64 v1,.int .i64 v2,.int .i64 v3,.int .i64 v4] nP))= .ok (.slice B (n+1) d) w9/\
   w9.cell? ⟨gb,7,none⟩=some (.slice A7 n c7)/\w9.frozen? ⟨gb,7,none⟩=false/\gb<w9.heap.size/\(∀c,K=some c->Bk w9 kb Il c)/\GV w m gb kb K fs lp (cs.setIfInBounds 7 (.slice B (n+1) d)) p A3 es A4 pa A5 c5 an A6 c6 (de++[⟨v1,v2,v3,v4⟩]) B d (w9.setCell ⟨gb,7,none⟩ (.slice B (n+1) d)):=by
 subst hn;obtain⟨B,d,w9,hrun,aZ,aB,bD⟩:=iG Uj 56 wr w.heap.size _ c7 A7 _ #[.int .i64 v1,.int .i64 v2,.int .i64 v3,.int .i64 v4] rfl h.des (by simp[Value.oneCell']) (by omega) h.mv.size;have s:Sp m nP wr w9:=Sp.push h.des (by omega) aB;have v9:=s.bk h.var (by decide);have hn:(de++[(⟨v1,v2,v3,v4⟩:Delta)]).length=de.length+1:=by simp
 have ho:w9.ownsRow w.heap.size nP 4 (.slice B (de++[(⟨v1,v2,v3,v4⟩:Delta)]).length d) (de++[(⟨v1,v2,v3,v4⟩:Delta)]).length (Hz (de++[(⟨v1,v2,v3,v4⟩:Delta)])):=by rw[hn];simpa [Hz,Vq] using aZ
 have k:GV w m gb kb K fs lp cs p A3 es A4 pa A5 c5 an A6 c6 (de++[(⟨v1,v2,v3,v4⟩:Delta)]) B d w9:=⟨s.mk h.mkr (by decide),v9,s.sl PtR.ok (by decide) h.pts,s.sl anO.ok (by decide) h.ends,s.own h.pas (by decide),s.own h.ans (by decide),ho,kE h.mv h.des (ag _) aB,fun c hc=>s.bk (h.kin c hc) (by decide)⟩
 exact⟨B,d,w9,hrun,by rw[v9.cell,hc],v9.frozen 7,v9.lt,k.kin,k.put hmw hg 7 _⟩
end
theorem aoT.make {n:Nat}{adv:Int}{mk:Bool}{k:Nat}{p:List Pt}{es:List Int}{pa:List Part}{an:List an8}{de:List Delta}{hi:List Ins}(hn:n<10)(ha:N9 adv)(ho:aoK k p es)(hk:k<=2)(hp:(∀x∈pa,In 2 x.anX/\N9 x.x/\N9 x.y)/\pa.length<=1)
  (hA:(∀a∈an,1<=a.kind/\a.kind<=4/\N9 a.cls/\N9 a.x/\N9 a.y)/\an.length<=5) (hd:(∀d∈de,N9 d.region/\N9 d.point/\N9 d.x/\N9 d.y)/\de.length<=40) (hh:mg hi/\hi.length<=60):aoT n ⟨lN n,adv,mk,p,es,pa,an,de,hi⟩:=
 ⟨rfl,{name:=ahC ⟨n,hn⟩,adv:=ha,pts:=ho.pts,ends:=ho.ends,parts:=hp.1,anch:=hA.1,an1:=hd.1,hint:=hh.1},{pts:=by have:=ho.few;show p.length<=12;omega,ends:=by have:=ho.few;show es.length<=2;omega,parts:=hp.2,anch:=hA.2,an1:=hd.2,hint:=hh.2}⟩
end
end Go.Proofs.YtkijckccfookeaaGreatDoor
