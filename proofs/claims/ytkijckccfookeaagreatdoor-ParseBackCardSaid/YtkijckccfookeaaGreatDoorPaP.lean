/- Lemmas. -/
import Derived.Test.YtkijckccfookeaaGreatDoorV25
set_option linter.unusedVariables false
set_option linter.unusedSimpArgs false
set_option maxRecDepth 100000
set_option maxHeartbeats 32000000
namespace Go.Proofs.YtkijckccfookeaaGreatDoor
open Go.RowKit
attribute [-go_sem] Builtin.append_
theorem VV (w:World)(Bd p gm cm:Nat)(gl:Gl)(s:PS)(rv:Rows)(K:Nat)(A:Option Addr)(n c:Nat)(ws:List P3)(t t1 t2:B)(hP:PSt w Bd p gm cm gl s rv K)(hL:aok w A n ws)(hT:ah ws=t::[t1,t2,kY])(hK:K<=10000000000):
  Calls Tryz.prog 79 #[.pointer (some ⟨p,0,none⟩),.slice A n c] w (anQ w Bd p gm cm gl (K+n) (gI gl s [t1,t2,kY])):=by
 have hn:n=4:=by rw[<-hL.length];exact dG hT
 have hB:=hP.size;obtain⟨b,o,rfl,hb,q1,hz1⟩:=hL.word (k:=1) (t:=t1) (by rw[hT];rfl) (d:=3) rfl;obtain⟨b',o',e',-,q2,hz2⟩:=hL.word (k:=2) (t:=t2) (by rw[hT];rfl) (d:=6) rfl;obtain⟨rfl,rfl⟩:b=b'/\o=o':=by simpa using e'
 clear e';obtain⟨b',o',e',-,q3,hz3⟩:=hL.word (k:=3) (t:=kY) (by rw[hT];rfl) (d:=9) rfl;obtain⟨rfl,rfl⟩:b=b'/\o=o':=by simpa using e'
 clear e' hz3;have hsm:kY.toArray= #[109,97,114,107]:=rfl;rw[hsm] at q3;subst hn;have HP:=hd0 hP;have hpb:p<w.heap.size:=hP.par.lt;obtain⟨A0,c0,hv⟩:=hP.slice (i:=0) (by decide);have kp:w.cell? ⟨p,1,none⟩=some (rv 0).v:=hP.par.cell 1;rw[hv] at kp;have kg:w.cell? ⟨p,10,none⟩=some (.map (some gm)):=hP.par.cell 10;have hfew:=hP.few 0 (by decide);have hlen:=hP.fnt.gly.1;have HLn:=hd0 hlen;have qL:=hd0 (fun w rb er h=>yU w rb p er t1 h);have rV:=hd0 (fun w rb er h=>dP w rb p er t2 h hz2);have HI2:=hd0 (dI t2);have HR:=hd0 (F8 gl s t1 t2 [kY] (by simp));have Ox:=hd0 (fun w rv K (h:PSt w Bd p gm cm gl s rv K)=>h.look t1);generalize aI t2=v2 at*
 generalize fM gl t1=vg at*
 clear hP hL hT hz1 hz2 hlen;go_enter Tryz.func79,Tryz.ntmps79
 go_wp2_with fail
 refine(gu w p).mono ?_;rintro e w1 ⟨rfl,hr1,hb1⟩;obtain⟨hc1,hf1⟩:=af hb1;have QF:w1.cell? ⟨b,o+3+2,none⟩=some (.string ⟨t1.toArray⟩):=(hc1 _ _ hb).trans q1;have hl1:=hr1.lt;have hs1:=hb1.size;have hbl:b<w1.heap.size:=by omega
 have hbc:b≠w1.heap.size:=by omega
 have hpc:p≠w1.heap.size:=by omega
 have kW:=hd0 (hr1.alloc (.cells #[.string ⟨#[]⟩,.int .i64 0,.bool true,.slice none 0 0,.slice none 0 0,.slice none 0 0,.slice none 0 0,.slice none 0 0,.slice none 0 0] 59));have Hb1:=hd0 (hb1.alloc hs1 (.cells #[.string ⟨#[]⟩,.int .i64 0,.bool true,.slice none 0 0,.slice none 0 0,.slice none 0 0,.slice none 0 0,.slice none 0 0,.slice none 0 0] 59));have oO:Hid (Bk (w1.alloc (.cells #[.string ⟨#[]⟩,.int .i64 0,.bool true,.slice none 0 0,.slice none 0 0,.slice none 0 0,.slice none 0 0,.slice none 0 0,.slice none 0 0] 59)) w1.heap.size 59 #[.string ⟨#[]⟩,.int .i64 0,.bool true,.slice none 0 0,.slice none 0 0,.slice none 0 0,.slice none 0 0,.slice none 0 0,.slice none 0 0]):=Bk.new _ _ _;clear hr1 hb1 hc1 hf1;go_wp2_with fail
 refine(qL.out _ _ _ (by exact kW.out)).mono ?_;rintro e w2 ⟨rfl,hr2,hg2⟩;have hb2:=bz Hb1.out hg2 (ag _);obtain⟨hc2,hf2⟩:=af hb2;have hk2:Bk w2 w1.heap.size 59 #[.string ⟨#[]⟩,.int .i64 0,.bool true,.slice none 0 0,.slice none 0 0,.slice none 0 0,.slice none 0 0,.slice none 0 0,.slice none 0 0]:=Bk.kept2 hg2 oO.out (by omega);have BM:w2.cell? ⟨w1.heap.size,0,none⟩=some (.string ⟨#[]⟩):=hk2.cell 0;have y2:=hk2.frozen 0;have hs2:=hk2.lt;have WG:w2.cell? ⟨b,o+6+2,none⟩=some (.string ⟨t2.toArray⟩):=(hc2 _ _ hb).trans q2;have lT:Hid (Rdr (w2.setCell ⟨w1.heap.size,0,none⟩ (.string ⟨t1.toArray⟩)) w.heap.size p (bI 0 t1)):=Bk.far hr2 (by simp;omega) _;have Hb2:=hd0 (hb2.setCell (p:=⟨w1.heap.size,0,none⟩) (by simp;omega) (.string ⟨t1.toArray⟩));have fC:Hid (Bk (w2.setCell ⟨w1.heap.size,0,none⟩ (.string ⟨t1.toArray⟩)) w1.heap.size 59 #[.string ⟨t1.toArray⟩,.int .i64 0,.bool true,.slice none 0 0,.slice none 0 0,.slice none 0 0,.slice none 0 0,.slice none 0 0,.slice none 0 0]):=hk2.set 0 _;clear hr2 hg2 hb2 hk2 hc2 hf2;go_wp2_with fail
 refine(rV.out _ _ _ (by exact lT.out)).mono ?_;rintro e w3 ⟨rfl,hr3,hg3⟩;have hb3:=bz Hb2.out hg3 (ag _);have hk3:Bk w3 w1.heap.size 59 #[.string ⟨t1.toArray⟩,.int .i64 0,.bool true,.slice none 0 0,.slice none 0 0,.slice none 0 0,.slice none 0 0,.slice none 0 0,.slice none 0 0]:=Bk.kept2 hg3 fC.out (by omega);have EX:w3.cell? ⟨w1.heap.size,1,none⟩=some (.int .i64 0):=hk3.cell 1;have y3:=hk3.frozen 1;have abL:w3.cell? ⟨w.heap.size,1,none⟩=some (.int .i64 (aT (bI 0 t1) t2)):=hr3.cell 1;have lY:Hid (Rdr (w3.setCell ⟨w1.heap.size,1,none⟩ (.int .i64 v2)) w.heap.size p (aT (bI 0 t1) t2)):=Bk.far hr3 (by simp;omega) _;have Hb3:=hd0 (hb3.setCell (p:=⟨w1.heap.size,1,none⟩) (by simp;omega) (.int .i64 v2));have jI:Hid (Bk (w3.setCell ⟨w1.heap.size,1,none⟩ (.int .i64 v2)) w1.heap.size 59 #[.string ⟨t1.toArray⟩,.int .i64 v2,.bool true,.slice none 0 0,.slice none 0 0,.slice none 0 0,.slice none 0 0,.slice none 0 0,.slice none 0 0]):=hk3.set 1 _;have hrc:w.heap.size≠w1.heap.size:=by omega
 clear hr3 hg3 hb3 hk3;generalize aT (bI 0 t1) t2=er at*
 by_cases he:er=0
 ·subst he;obtain⟨W1,hW1⟩:∃W1,w3.setCell ⟨w1.heap.size,1,none⟩ (.int .i64 v2)=W1:=⟨_,rfl⟩
  have Hr:=lY;have Hb:=Hb3;have eX:=jI;rw[hW1] at Hr Hb eX;have aO:=HP.out.below Hb.out;have hlk:=Ox.out _ _ _ aO;have acr:(Instr.lookup 112 (.map (some gm)) (.string ⟨t1.toArray⟩) false).run Tryz.prog W1.drew= .ok (.int .i64 vg) W1.drew:=Ox.out W1.drew rv K (aO.drewN 1);have xX:W1.cell? ⟨p,1,none⟩=some (.slice A0 (rv 0).n c0):=((af Hb.out).1 _ _ hpb).trans kp;have a_g:W1.cell? ⟨p,10,none⟩=some (.map (some gm)):=((af Hb.out).1 _ _ hpb).trans kg;have vC:W1.cell? ⟨w1.heap.size,0,none⟩=some (.string ⟨t1.toArray⟩):=eX.out.cell 0;have a_e:W1.cell? ⟨w.heap.size,1,none⟩=some (.int .i64 0):=Hr.out.cell 1;have xE:W1.cell? ⟨w1.heap.size,1,none⟩=some (.int .i64 v2):=eX.out.cell 1;have AZ:W1.cell? ⟨w1.heap.size,2,none⟩=some (.bool true):=eX.out.cell 2;have BG:W1.cell? ⟨w1.heap.size,3,none⟩=some (.slice none 0 0):=eX.out.cell 3;have G6:W1.cell? ⟨w1.heap.size,4,none⟩=some (.slice none 0 0):=eX.out.cell 4;have F9:W1.cell? ⟨w1.heap.size,5,none⟩=some (.slice none 0 0):=eX.out.cell 5;have YQ:W1.cell? ⟨w1.heap.size,6,none⟩=some (.slice none 0 0):=eX.out.cell 6;have X9:W1.cell? ⟨w1.heap.size,7,none⟩=some (.slice none 0 0):=eX.out.cell 7;have ZA:W1.cell? ⟨w1.heap.size,8,none⟩=some (.slice none 0 0):=eX.out.cell 8;have zp:p<W1.heap.size:=aO.par.lt;have zc:w1.heap.size<W1.heap.size:=eX.out.lt;have zr:w.heap.size<W1.heap.size:=Hr.out.lt;by_cases wV:vg=((rv 0).n:Int)
  ·have HR2:Hid (gI gl s [t1,t2,kY]= .ok {s with f:= {s.f with anL:=s.f.anL++[⟨t1,v2,true,[],[],[],[],[],[]⟩]}}):=by
    show _=_;rw[HR.out,if_neg (by simp),if_neg (by rw[wV,HLn.out];simp)];rfl
   subst wV;go_wp2_with fail
   try rw[hW1]
   go_region
   all_goals
    obtain⟨W2,hW2⟩:∃W2,W1.drew=W2:=⟨_,rfl⟩
    try rw[hW2]
    have b_p:W2.cell? ⟨p,1,none⟩=some (.slice A0 (rv 0).n c0):=by rw[<-hW2];exact xX
    have b_0:W2.cell? ⟨w1.heap.size,0,none⟩=some (.string ⟨t1.toArray⟩):=by rw[<-hW2];exact vC
    have b_1:W2.cell? ⟨w1.heap.size,1,none⟩=some (.int .i64 v2):=by rw[<-hW2];exact xE
    have b_2:W2.cell? ⟨w1.heap.size,2,none⟩=some (.bool true):=by rw[<-hW2];exact AZ
    have b_3:W2.cell? ⟨w1.heap.size,3,none⟩=some (.slice none 0 0):=by rw[<-hW2];exact BG
    have b_4:W2.cell? ⟨w1.heap.size,4,none⟩=some (.slice none 0 0):=by rw[<-hW2];exact G6
    have b_5:W2.cell? ⟨w1.heap.size,5,none⟩=some (.slice none 0 0):=by rw[<-hW2];exact F9
    have b_6:W2.cell? ⟨w1.heap.size,6,none⟩=some (.slice none 0 0):=by rw[<-hW2];exact YQ
    have b_7:W2.cell? ⟨w1.heap.size,7,none⟩=some (.slice none 0 0):=by rw[<-hW2];exact X9
    have b_8:W2.cell? ⟨w1.heap.size,8,none⟩=some (.slice none 0 0):=by rw[<-hW2];exact ZA
    have x_p:p<W2.heap.size:=by rw[<-hW2];exact zp
    have x_c:w1.heap.size<W2.heap.size:=by rw[<-hW2];exact zc
    have HP2:PSt W2 Bd p gm cm gl s rv K:=by rw[<-hW2];exact aO.drewN 1
    have HB2:Below w.heap.size w W2:=by rw[<-hW2];exact Hb.out.drew
    have hown:=HP2.live.own 0 (by decide);rw[hv] at hown;obtain⟨A5,c5,w9,hrun,aZ,aB,bD⟩:=iw IV 24 W2 Bd _ c0 A0 _ #[.string ⟨t1.toArray⟩,.int .i64 v2,.bool true,.slice none 0 0,.slice none 0 0,.slice none 0 0,.slice none 0 0,.slice none 0 0,.slice none 0 0] rfl hown (by simp[Value.oneCell']) (by omega) HP2.size;rw[<-hv] at aB bD;have bT:Bk w9 p jq (dW s rv gm cm):=(HP2.row (i:=0) (by decide) (r:=⟨.slice A5 ((rv 0).n+1) c5,_,_⟩) aB aZ bD).1;have x9:w9.cell? ⟨p,1,none⟩=some (rv 0).v:=bT.cell 1;have y9:=bT.frozen 1;have bP:=hd0 (HP2.apj (nm:=t1) (adv:=v2) (mk:=true) aB aZ bD HI2.out (K':=K+4) (by omega));have ik:=hd0 ((HB2.mono hB).trans (HP2.aoB (i:=0) (by decide) aB 1 (.slice A5 ((rv 0).n+1) c5) HP2.size));have HQ:=hd0 (KQ.below (cm:=cm) HB2);clear Ox hlk acr kW lT lY Hb1 Hb2 Hb3 oO fC jI qL rV hW1 hW2 BM EX abL y2 y3 hown aZ aB bD bT HP2 HB2 aO Hr Hb eX xX a_g vC xE AZ BG G6 F9 YQ X9 ZA a_e;go_wp2_with fail
    go_region
    all_goals
     go_wp2;go_ret
     obtain⟨rv',g1,g2⟩:=bP.out;exact anQ.good HR2.out ik.out (HQ.out.trans g2) g1
  have HR2:Hid (gI gl s [t1,t2,kY]= .error 24):=by show _=_;rw[HR.out,if_neg (by simp),if_pos (by rw[<-HLn.out];exact wV)]
  have e3:(vg !=((rv 0).n:Int))=true:=by simpa using wV
  clear wV;go_wp2_with fail
  try rw[hW1]
  go_region
  all_goals
   go_wp2;go_ret
   exact anQ.bad HR2.out (Hb.out.drew.mono hB)
 have HR2:Hid (gI gl s [t1,t2,kY]= .error er):=by show _=_;rw[HR.out,if_pos he]
 have e1:(er==0)=false:=by simpa using he
 have e2:(er !=0)=true:=by simpa using he
 clear he;go_wp2;go_ret
 exact anQ.bad HR2.out (Hb3.out.mono hB)
theorem WM (w:World)(Bd p gm cm:Nat)(gl:Gl)(s:PS)(rv:Rows)(K:Nat)(A:Option Addr)(n c:Nat)(ws:List P3)(t:B)(l:List B)(hP:PSt w Bd p gm cm gl s rv K)(hL:aok w A n ws)(hT:ah ws=t::l)(h2:l.length≠2)(h3:∀a b,l≠[a,b,kY]):
  Calls Tryz.prog 79 #[.pointer (some ⟨p,0,none⟩),.slice A n c] w (anQ w Bd p gm cm gl (K+n) (gI gl s l)):=by
 have hn:n=l.length+1:=by rw[<-hL.length];exact dG hT
 have hB:=hP.size;have HR:=hd0 (Yw gl s l h2 h3);by_cases h4:l.length=3
 ·obtain⟨t1,t2,t3,rfl⟩:∃t1 t2 t3,l=[t1,t2,t3]:=by
   match l,h4 with
   |[a,b,c],_=>exact⟨a,b,c,rfl⟩
  obtain⟨b,o,rfl,hb,q3,hz3⟩:=hL.word (k:=3) (t:=t3) (by rw[hT];rfl) (d:=9) rfl;have h5:t3≠kY:=fun e=>h3 t1 t2 (by rw[e])
  have e3:(t3==[109,97,114,107])=false:=by rw[beq_eq_false_iff_ne];exact h5
  simp only[ay,ln] at hn;subst hn;clear hP hL hT h2 h3 h4 h5 hz3;go_enter Tryz.func79,Tryz.ntmps79
  go_wp2;go_ret
  exact anQ.bad HR.out (aqk _ _)
 have e4:((n:Int)==4)=false:=by simp;omega
 have e3:((n:Int)==3)=false:=by simp;omega
 have e5:((n:Int) !=3)=true:=by simp;omega
 clear hP hL hT h2 h3 h4 hn;go_enter Tryz.func79,Tryz.ntmps79
 go_wp2;go_ret
 exact anQ.bad HR.out (aqk _ _)
theorem QP (w:World)(Bd p gm cm:Nat)(gl:Gl)(s:PS)(rv:Rows)(K:Nat)(A:Option Addr)(n c:Nat)(ws:List P3)(t:B)(l:List B)(hP:PSt w Bd p gm cm gl s rv K)(hL:aok w A n ws)(hT:ah ws=t::l)(hK:K<=10000000000):
  Calls Tryz.prog 79 #[.pointer (some ⟨p,0,none⟩),.slice A n c] w (anQ w Bd p gm cm gl (K+n) (gI gl s l)):=by
 by_cases h2:l.length=2
 ·obtain⟨t1,t2,rfl⟩:∃t1 t2,l=[t1,t2]:=by
   match l,h2 with
   |[a,b],_=>exact⟨a,b,rfl⟩
  exact Xk w Bd p gm cm gl s rv K A n c ws t t1 t2 hP hL hT hK
 by_cases h3:∃a b,l=[a,b,kY]
 ·obtain⟨t1,t2,rfl⟩:=h3;exact VV w Bd p gm cm gl s rv K A n c ws t t1 t2 hP hL hT hK
 exact WM w Bd p gm cm gl s rv K A n c ws t l hP hL hT h2 (fun a b e=>h3 ⟨a,b,e⟩)
end Go.Proofs.YtkijckccfookeaaGreatDoor
