/- Lemmas. -/
import Derived.Test.YtkijckccfookeaaGreatDoorV19
import Derived.Deep.DeepCutAuto
import Derived.Deep.CutBlock
set_option linter.unusedVariables false
set_option linter.unusedSimpArgs false
set_option maxRecDepth 100000
set_option maxHeartbeats 32000000
namespace Go.Proofs.YtkijckccfookeaaGreatDoor
open Go.RowKit
section
attribute [-go_sem] Builtin.append_
theorem Q7 (w:World)(Bd p gm cm:Nat)(gl:Gl)(s:PS)(rv:Rows)(K:Nat)(A:Option Addr)(n c:Nat)(ws:List P3)(t t1 t2:B)(hP:PSt w Bd p gm cm gl s rv K)(hL:aif w A n ws)(hT:af ws=t::[t1,t2,iH])(hK:K<=10000000000):
  Calls Tryz.prog 79 #[.pointer (some ⟨p,0,none⟩),.slice A n c] w (ahS w Bd p gm cm gl (K+n) (gq gl s [t1,t2,iH])):=by
 have hn:n=4:=by rw[<-hL.length];exact dE hT
 have hB:=hP.size;obtain⟨b,o,rfl,hb,q1,hz1⟩:=hL.word (k:=1) (t:=t1) (by rw[hT];rfl) (d:=3) rfl;obtain⟨b',o',e',-,q2,hz2⟩:=hL.word (k:=2) (t:=t2) (by rw[hT];rfl) (d:=6) rfl;obtain⟨rfl,rfl⟩:b=b'/\o=o':=by simpa using e'
 clear e';obtain⟨b',o',e',-,q3,hz3⟩:=hL.word (k:=3) (t:=iH) (by rw[hT];rfl) (d:=9) rfl;obtain⟨rfl,rfl⟩:b=b'/\o=o':=by simpa using e'
 clear e' hz3;have hsm:iH.toArray= #[109,97,114,107]:=rfl;rw[hsm] at q3;subst hn;have HP:=hd0 hP;have hpb:p<w.heap.size:=hP.par.lt;obtain⟨A0,c0,hv⟩:=hP.slice (i:=0) (by decide);have kp:w.cell? ⟨p,1,none⟩=some (rv 0).v:=hP.par.cell 1;rw[hv] at kp;have kg:w.cell? ⟨p,10,none⟩=some (.map (some gm)):=hP.par.cell 10;have hfew:=hP.few 0 (by decide);have hlen:=hP.fnt.gly.1;have HLn:=hd0 hlen;have uS:=hd0 (fun w rb er h=>wP w rb p er t1 h);have uD:=hd0 (fun w rb er h=>dK w rb p er t2 h hz2);have HI2:=hd0 (dG t2);have HR:=hd0 (Ey gl s t1 t2 [iH] (by simp));have KZ:=hd0 (fun w rv K (h:PSt w Bd p gm cm gl s rv K)=>h.look t1);generalize aA t2=v2 at*
 generalize fF gl t1=vg at*
 clear hP hL hT hz1 hz2 hlen;go_enter Tryz.func79,Tryz.ntmps79
 go_wp2_with fail
 refine(fZ w p).mono ?_;rintro e w1 ⟨rfl,hr1,hb1⟩;obtain⟨hc1,hf1⟩:=aj hb1;have KL:w1.cell? ⟨b,o+3+2,none⟩=some (.string ⟨t1.toArray⟩):=(hc1 _ _ hb).trans q1;have hl1:=hr1.lt;have hs1:=hb1.size;have hbl:b<w1.heap.size:=by omega
 have hbc:b≠w1.heap.size:=by omega
 have hpc:p≠w1.heap.size:=by omega
 have jV:=hd0 (hr1.alloc (.cells #[.string ⟨#[]⟩,.int .i64 0,.bool true,.slice none 0 0,.slice none 0 0,.slice none 0 0,.slice none 0 0,.slice none 0 0,.slice none 0 0] 59));have Hb1:=hd0 (hb1.alloc hs1 (.cells #[.string ⟨#[]⟩,.int .i64 0,.bool true,.slice none 0 0,.slice none 0 0,.slice none 0 0,.slice none 0 0,.slice none 0 0,.slice none 0 0] 59));have oL:Hid (Bk (w1.alloc (.cells #[.string ⟨#[]⟩,.int .i64 0,.bool true,.slice none 0 0,.slice none 0 0,.slice none 0 0,.slice none 0 0,.slice none 0 0,.slice none 0 0] 59)) w1.heap.size 59 #[.string ⟨#[]⟩,.int .i64 0,.bool true,.slice none 0 0,.slice none 0 0,.slice none 0 0,.slice none 0 0,.slice none 0 0,.slice none 0 0]):=Bk.new _ _ _;clear hr1 hb1 hc1 hf1;go_wp2_with fail
 refine(uS.out _ _ _ (by exact jV.out)).mono ?_;rintro e w2 ⟨rfl,hr2,hg2⟩;have hb2:=aU Hb1.out hg2 (nr _);obtain⟨hc2,hf2⟩:=aj hb2;have hk2:Bk w2 w1.heap.size 59 #[.string ⟨#[]⟩,.int .i64 0,.bool true,.slice none 0 0,.slice none 0 0,.slice none 0 0,.slice none 0 0,.slice none 0 0,.slice none 0 0]:=Bk.kept2 hg2 oL.out (by omega);have Ae:w2.cell? ⟨w1.heap.size,0,none⟩=some (.string ⟨#[]⟩):=hk2.cell 0;have y2:=hk2.frozen 0;have hs2:=hk2.lt;have QB:w2.cell? ⟨b,o+6+2,none⟩=some (.string ⟨t2.toArray⟩):=(hc2 _ _ hb).trans q2;have lm:Hid (Rdr (w2.setCell ⟨w1.heap.size,0,none⟩ (.string ⟨t1.toArray⟩)) w.heap.size p (bg 0 t1)):=Bk.far hr2 (by simp;omega) _;have Hb2:=hd0 (hb2.setCell (p:=⟨w1.heap.size,0,none⟩) (by simp;omega) (.string ⟨t1.toArray⟩));have mi:Hid (Bk (w2.setCell ⟨w1.heap.size,0,none⟩ (.string ⟨t1.toArray⟩)) w1.heap.size 59 #[.string ⟨t1.toArray⟩,.int .i64 0,.bool true,.slice none 0 0,.slice none 0 0,.slice none 0 0,.slice none 0 0,.slice none 0 0,.slice none 0 0]):=hk2.set 0 _;clear hr2 hg2 hb2 hk2 hc2 hf2;go_wp2_with fail
 refine(uD.out _ _ _ (by exact lm.out)).mono ?_;rintro e w3 ⟨rfl,hr3,hg3⟩;have hb3:=aU Hb2.out hg3 (nr _);have hk3:Bk w3 w1.heap.size 59 #[.string ⟨t1.toArray⟩,.int .i64 0,.bool true,.slice none 0 0,.slice none 0 0,.slice none 0 0,.slice none 0 0,.slice none 0 0,.slice none 0 0]:=Bk.kept2 hg3 mi.out (by omega);have DD:w3.cell? ⟨w1.heap.size,1,none⟩=some (.int .i64 0):=hk3.cell 1;have y3:=hk3.frozen 1;have VG:w3.cell? ⟨w.heap.size,1,none⟩=some (.int .i64 (aG (bg 0 t1) t2)):=hr3.cell 1;have lG:Hid (Rdr (w3.setCell ⟨w1.heap.size,1,none⟩ (.int .i64 v2)) w.heap.size p (aG (bg 0 t1) t2)):=Bk.far hr3 (by simp;omega) _;have Hb3:=hd0 (hb3.setCell (p:=⟨w1.heap.size,1,none⟩) (by simp;omega) (.int .i64 v2));have nD:Hid (Bk (w3.setCell ⟨w1.heap.size,1,none⟩ (.int .i64 v2)) w1.heap.size 59 #[.string ⟨t1.toArray⟩,.int .i64 v2,.bool true,.slice none 0 0,.slice none 0 0,.slice none 0 0,.slice none 0 0,.slice none 0 0,.slice none 0 0]):=hk3.set 1 _;have hrc:w.heap.size≠w1.heap.size:=by omega
 clear hr3 hg3 hb3 hk3;generalize aG (bg 0 t1) t2=er at*
 by_cases he:er=0
 ·subst he;obtain⟨W1,hW1⟩:∃W1,w3.setCell ⟨w1.heap.size,1,none⟩ (.int .i64 v2)=W1:=⟨_,rfl⟩
  have Hr:=lG;have Hb:=Hb3;have eU:=nD;rw[hW1] at Hr Hb eU;have aB:=HP.out.below Hb.out;have hlk:=KZ.out _ _ _ aB;have Wh:(Instr.lookup 112 (.map (some gm)) (.string ⟨t1.toArray⟩) false).run Tryz.prog W1.drew= .ok (.int .i64 vg) W1.drew:=KZ.out W1.drew rv K (aB.drewN 1);have vC:W1.cell? ⟨p,1,none⟩=some (.slice A0 (rv 0).n c0):=((aj Hb.out).1 _ _ hpb).trans kp;have a_g:W1.cell? ⟨p,10,none⟩=some (.map (some gm)):=((aj Hb.out).1 _ _ hpb).trans kg;have tN:W1.cell? ⟨w1.heap.size,0,none⟩=some (.string ⟨t1.toArray⟩):=eU.out.cell 0;have a_e:W1.cell? ⟨w.heap.size,1,none⟩=some (.int .i64 0):=Hr.out.cell 1;have vK:W1.cell? ⟨w1.heap.size,1,none⟩=some (.int .i64 v2):=eU.out.cell 1;have yV:W1.cell? ⟨w1.heap.size,2,none⟩=some (.bool true):=eU.out.cell 2;have Bc:W1.cell? ⟨w1.heap.size,3,none⟩=some (.slice none 0 0):=eU.out.cell 3;have Et:W1.cell? ⟨w1.heap.size,4,none⟩=some (.slice none 0 0):=eU.out.cell 4;have EI:W1.cell? ⟨w1.heap.size,5,none⟩=some (.slice none 0 0):=eU.out.cell 5;have Va:W1.cell? ⟨w1.heap.size,6,none⟩=some (.slice none 0 0):=eU.out.cell 6;have Ve:W1.cell? ⟨w1.heap.size,7,none⟩=some (.slice none 0 0):=eU.out.cell 7;have UW:W1.cell? ⟨w1.heap.size,8,none⟩=some (.slice none 0 0):=eU.out.cell 8;have zp:p<W1.heap.size:=aB.par.lt;have zc:w1.heap.size<W1.heap.size:=eU.out.lt;have zr:w.heap.size<W1.heap.size:=Hr.out.lt;by_cases hvg:vg=((rv 0).n:Int)
  ·have HR2:Hid (gq gl s [t1,t2,iH]= .ok {s with f:= {s.f with ahO:=s.f.ahO++[⟨t1,v2,true,[],[],[],[],[],[]⟩]}}):=by
    show _=_;rw[HR.out,if_neg (by simp),if_neg (by rw[hvg,HLn.out];simp)];rfl
   subst hvg;go_wp2_with fail
   try rw[hW1]
   go_region
   all_goals
    obtain⟨W2,hW2⟩:∃W2,W1.drew=W2:=⟨_,rfl⟩
    try rw[hW2]
    have b_p:W2.cell? ⟨p,1,none⟩=some (.slice A0 (rv 0).n c0):=by rw[<-hW2];exact vC
    have b_0:W2.cell? ⟨w1.heap.size,0,none⟩=some (.string ⟨t1.toArray⟩):=by rw[<-hW2];exact tN
    have b_1:W2.cell? ⟨w1.heap.size,1,none⟩=some (.int .i64 v2):=by rw[<-hW2];exact vK
    have b_2:W2.cell? ⟨w1.heap.size,2,none⟩=some (.bool true):=by rw[<-hW2];exact yV
    have b_3:W2.cell? ⟨w1.heap.size,3,none⟩=some (.slice none 0 0):=by rw[<-hW2];exact Bc
    have b_4:W2.cell? ⟨w1.heap.size,4,none⟩=some (.slice none 0 0):=by rw[<-hW2];exact Et
    have b_5:W2.cell? ⟨w1.heap.size,5,none⟩=some (.slice none 0 0):=by rw[<-hW2];exact EI
    have b_6:W2.cell? ⟨w1.heap.size,6,none⟩=some (.slice none 0 0):=by rw[<-hW2];exact Va
    have b_7:W2.cell? ⟨w1.heap.size,7,none⟩=some (.slice none 0 0):=by rw[<-hW2];exact Ve
    have b_8:W2.cell? ⟨w1.heap.size,8,none⟩=some (.slice none 0 0):=by rw[<-hW2];exact UW
    have x_p:p<W2.heap.size:=by rw[<-hW2];exact zp
    have x_c:w1.heap.size<W2.heap.size:=by rw[<-hW2];exact zc
    have HP2:PSt W2 Bd p gm cm gl s rv K:=by rw[<-hW2];exact aB.drewN 1
    have HB2:Below w.heap.size w W2:=by rw[<-hW2];exact Hb.out.drew
    have hown:=HP2.live.own 0 (by decide);rw[hv] at hown;obtain⟨A5,c5,w9,hrun,di,aN,bz⟩:=iE Oo 24 W2 Bd _ c0 A0 _ #[.string ⟨t1.toArray⟩,.int .i64 v2,.bool true,.slice none 0 0,.slice none 0 0,.slice none 0 0,.slice none 0 0,.slice none 0 0,.slice none 0 0] rfl hown (by simp[Value.oneCell']) (by omega) HP2.size;rw[<-hv] at aN bz;have bI:Bk w9 p jq (dV s rv gm cm):=(HP2.row (i:=0) (by decide) (r:=⟨.slice A5 ((rv 0).n+1) c5,_,_⟩) aN di bz).1;have x9:w9.cell? ⟨p,1,none⟩=some (rv 0).v:=bI.cell 1;have y9:=bI.frozen 1;have bG:=hd0 (HP2.ajm (nm:=t1) (adv:=v2) (mk:=true) aN di bz HI2.out (K':=K+4) (by omega));have iy:=hd0 ((HB2.mono hB).trans (HP2.aiA (i:=0) (by decide) aN 1 (.slice A5 ((rv 0).n+1) c5) HP2.size));have HQ:=hd0 (KQ.below (cm:=cm) HB2);clear KZ hlk Wh jV lm lG Hb1 Hb2 Hb3 oL mi nD uS uD hW1 hW2 Ae DD VG y2 y3 hown di aN bz bI HP2 HB2 aB Hr Hb eU vC a_g tN vK yV Bc Et EI Va Ve UW a_e;go_wp2_with fail
    go_region
    all_goals
     go_wp2;go_ret
     obtain⟨rv',g1,g2⟩:=bG.out;exact ahS.good HR2.out iy.out (HQ.out.trans g2) g1
  have HR2:Hid (gq gl s [t1,t2,iH]= .error 24):=by show _=_;rw[HR.out,if_neg (by simp),if_pos (by rw[<-HLn.out];exact hvg)]
  have e3:(vg !=((rv 0).n:Int))=true:=by simpa using hvg
  clear hvg;go_wp2_with fail
  try rw[hW1]
  go_region
  all_goals
   go_wp2;go_ret
   exact ahS.bad HR2.out (Hb.out.drew.mono hB)
 have HR2:Hid (gq gl s [t1,t2,iH]= .error er):=by show _=_;rw[HR.out,if_pos he]
 have e1:(er==0)=false:=by simpa using he
 have e2:(er !=0)=true:=by simpa using he
 clear he;go_wp2;go_ret
 exact ahS.bad HR2.out (Hb3.out.mono hB)
theorem Q5 (w:World)(Bd p gm cm:Nat)(gl:Gl)(s:PS)(rv:Rows)(K:Nat)(A:Option Addr)(n c:Nat)(ws:List P3)(t:B)(l:List B)(hP:PSt w Bd p gm cm gl s rv K)(hL:aif w A n ws)(hT:af ws=t::l)(h2:l.length≠2)(h3:∀a b,l≠[a,b,iH]):
  Calls Tryz.prog 79 #[.pointer (some ⟨p,0,none⟩),.slice A n c] w (ahS w Bd p gm cm gl (K+n) (gq gl s l)):=by
 have hn:n=l.length+1:=by rw[<-hL.length];exact dE hT
 have hB:=hP.size;have HR:=hd0 (Ur gl s l h2 h3);by_cases h4:l.length=3
 ·obtain⟨t1,t2,t3,rfl⟩:∃t1 t2 t3,l=[t1,t2,t3]:=by
   match l,h4 with
   |[a,b,c],_=>exact⟨a,b,c,rfl⟩
  obtain⟨b,o,rfl,hb,q3,hz3⟩:=hL.word (k:=3) (t:=t3) (by rw[hT];rfl) (d:=9) rfl;have h5:t3≠iH:=fun e=>h3 t1 t2 (by rw[e])
  have e3:(t3==[109,97,114,107])=false:=by rw[beq_eq_false_iff_ne];exact h5
  simp only[aF,ln] at hn;subst hn;clear hP hL hT h2 h3 h4 h5 hz3;go_enter Tryz.func79,Tryz.ntmps79
  go_wp2;go_ret
  exact ahS.bad HR.out (akl _ _)
 have e4:((n:Int)==4)=false:=by simp;omega
 have e3:((n:Int)==3)=false:=by simp;omega
 have e5:((n:Int) !=3)=true:=by simp;omega
 clear hP hL hT h2 h3 h4 hn;go_enter Tryz.func79,Tryz.ntmps79
 go_wp2;go_ret
 exact ahS.bad HR.out (akl _ _)
theorem JB (w:World)(Bd p gm cm:Nat)(gl:Gl)(s:PS)(rv:Rows)(K:Nat)(A:Option Addr)(n c:Nat)(ws:List P3)(t:B)(l:List B)(hP:PSt w Bd p gm cm gl s rv K)(hL:aif w A n ws)(hT:af ws=t::l)(hK:K<=10000000000):
  Calls Tryz.prog 79 #[.pointer (some ⟨p,0,none⟩),.slice A n c] w (ahS w Bd p gm cm gl (K+n) (gq gl s l)):=by
 by_cases h2:l.length=2
 ·obtain⟨t1,t2,rfl⟩:∃t1 t2,l=[t1,t2]:=by
   match l,h2 with
   |[a,b],_=>exact⟨a,b,rfl⟩
  exact PX w Bd p gm cm gl s rv K A n c ws t t1 t2 hP hL hT hK
 by_cases h3:∃a b,l=[a,b,iH]
 ·obtain⟨t1,t2,rfl⟩:=h3;exact Q7 w Bd p gm cm gl s rv K A n c ws t t1 t2 hP hL hT hK
 exact Q5 w Bd p gm cm gl s rv K A n c ws t l hP hL hT h2 (fun a b e=>h3 ⟨a,b,e⟩)
end
section
def VJ (kd:Int)(r:aii):Prop:=(kd=1\/kd=5->∀s,r.in'.head? =some s->r.out.length=s.length)/\(kd=2->r.out.length<=6)/\(kd=3->r.out.length=1)/\(kd≠1->kd≠2->kd≠3->kd≠5->r.out=[])
structure ajp (n m:Nat)(kd:Int)(r:aii):Prop where
 w:VJ kd r
 out:∀x∈r.out,In n x
 few:r.calls.length<=6
 calls:∀c∈r.calls,In r.in'.length c.at'/\In m c.lookup
 noC:r.calls≠[]->kd=4
 x:N9 r.x
 noX:r.x≠0->kd=6
theorem VW (w:World)(f:Fnt)(A1 A2 A3 A4 A5 A6 A7 A8:Option Addr)(c1 c2 c3 c4 c5 c6 c7 c8:Nat)(kd:Int)(r:aii)(C0 C1 C2 C3 C4:Option Addr)(e0 e1 e2 e3 e4:Nat)(hI:Sl ahV 1 w (Lw w) C1 r.in')(hO:Sl ahT 1 w (Lw w) C3 r.out)(hC:Sl air 2 w (Lw w) C4 r.calls)(hL:Sl ah1 3 w (Lw w) A3 f.ahP)(hne:kd=1\/kd=5->0<r.in'.length)(hB:ajq r)(hn:Big f.ahO.length)(hm:Big f.ahP.length):Calls Tryz.prog 159 #[.agg #[.int .i64 f.unit,.slice A1 f.ahO.length c1,.slice A2 f.chars.length c2,.slice A3 f.ahP.length c3,.slice A4 f.features.length c4,.slice A5 f.ahQ.length c5,.slice A6 f.regions.length c6,.slice A7 f.funcs.length c7,.slice A8 f.cvt.length c8],.int .i64 kd,.agg #[.slice C0 r.back.length e0,.slice C1 r.in'.length e1,.slice C2 r.ahead.length e2,.slice C3 r.out.length e3,.slice C4 r.calls.length e4,.int .i64 r.x]] w (OkE w (ajp f.ahO.length f.ahP.length kd r)):=by
 obtain⟨P,HP⟩:∃P:Prop,Hid (P=(ajp f.ahO.length f.ahP.length kd r)):=⟨_,rfl⟩
 rw[<-HP.out];obtain⟨b0,b1,b2,b3,b4⟩:=hB;unfold Big at b0 b1 b2 b3 b4 hn hm;obtain⟨Wf,hWf,hbf,bW⟩:=aQ w 32 #[.int .i64 f.unit,.slice A1 f.ahO.length c1,.slice A2 f.chars.length c2,.slice A3 f.ahP.length c3,.slice A4 f.features.length c4,.slice A5 f.ahQ.length c5,.slice A6 f.regions.length c6,.slice A7 f.funcs.length c7,.slice A8 f.cvt.length c8];have aZ:Hid (Below w.heap.size w Wf):=hd0 hbf;have lg:=hd0 bW;obtain⟨Wr,OG,hbr,hkr⟩:=aQ Wf 76 #[.slice C0 r.back.length e0,.slice C1 r.in'.length e1,.slice C2 r.ahead.length e2,.slice C3 r.out.length e3,.slice C4 r.calls.length e4,.int .i64 r.x];have l7:Hid (Below w.heap.size w Wr):=hd0 (aZ.out.trans (hbr.mono aZ.out.size));have sK:=hd0 hkr;have aH:Hid (Bk Wr w.heap.size 32 #[.int .i64 f.unit,.slice A1 f.ahO.length c1,.slice A2 f.chars.length c2,.slice A3 f.ahP.length c3,.slice A4 f.features.length c4,.slice A5 f.ahQ.length c5,.slice A6 f.regions.length c6,.slice A7 f.funcs.length c7,.slice A8 f.cvt.length c8]):=hd0 (Bk.bel bW hbr);have hI0:=hI;have HI:=hd0 ((hI.lw ahV.ok hbf).lw ahV.ok hbr);have HO:=hd0 ((hO.lw ahT.ok hbf).lw ahT.ok hbr);have HC:=hd0 ((hC.lw air.ok hbf).lw air.ok hbr);have HL:=hd0 ((hL.lw ah1.ok hbf).lw ah1.ok hbr);have k1:=hkr.cell 1;have k3:=hkr.cell 3;have iq:=l7.out.size;clear hbf hbr bW hkr hI hO hC hL hI0;go_enter Tryz.func159,Tryz.ntmps159
 have hin':(kd=1\/kd=5)->0<r.in'.length:=hne;clear hne
 go_upto_block 0 with fail
 try rw[hWf]
 try rw[OG]
 clear hWf OG;go_cut [8] from 19 to 36 (fun s8 wx=>∃b:Bool,s8= .bool b/\(b=false->VJ kd r)/\Wr=wx)
 case first=>
  have e1:(kd==1)=false\/kd=1:=by by_cases h:kd=1;exact .inr h;exact .inl (eH h)
  have e2:(kd==2)=false\/kd=2:=by by_cases h:kd=2;exact .inr h;exact .inl (eH h)
  have e3:(kd==3)=false\/kd=3:=by by_cases h:kd=3;exact .inr h;exact .inl (eH h)
  have e5:(kd==5)=false\/kd=5:=by by_cases h:kd=5;exact .inr h;exact .inl (eH h)
  rcases e1 with e1|hk1
  ·rcases e5 with e5|hk5
   ·rcases e2 with e2|hk2
    ·rcases e3 with e3|hk3
     ·have HW:Hid (decide (0<r.out.length)=false->VJ kd r):=hd0 fun hb=>⟨fun h=>by rcases h with rfl|rfl;exact absurd e1 (by decide);exact absurd e5 (by decide),fun h=>by subst h;exact absurd e2 (by decide),fun h=>by subst h;exact absurd e3 (by decide),fun _ _ _ _=>List.eq_nil_of_length_eq_zero (by have:=of_decide_eq_false hb;omega)⟩
      go_wp2_with fail
      go_meet
      exact⟨_,rfl,HW.out,rfl⟩
     subst hk3;clear hin' e1 e2 e5;go_wp2_with fail
     go_meet
     exact⟨_,rfl,fun hb=>⟨fun h=>by omega,fun h=>by omega,fun _=>by have:=bne_eq_false_iff_eq.1 hb;omega,fun _ _ h3=>absurd rfl h3⟩,rfl⟩
    subst hk2;clear hin' e1 e3 e5;go_wp2_with fail
    go_meet
    exact⟨_,rfl,fun hb=>⟨fun h=>by omega,fun _=>by have:=of_decide_eq_false hb;omega,fun h=>by omega,fun _ h2=>absurd rfl h2⟩,rfl⟩
   have hin:=hin' (.inr hk5);clear hin' e1 e2 e3;subst hk5;obtain⟨b,o,s,A9,c9,rfl,hb,hs,q0,-⟩:=HI.out.row (k:=0) hin;clear hb;simp only[Nat.add_zero] at q0;have hs0:r.in'.head? =some s:=by rw[List.head?_eq_getElem?];exact hs.out
   go_wp2_with fail
   go_meet
   exact⟨_,rfl,fun hb=>⟨fun _ s' hs'=>by rw[hs0] at hs';injection hs' with hs';subst hs';have:=bne_eq_false_iff_eq.1 hb;omega,fun h=>by omega,fun h=>by omega,fun h1 h2 h3 h5=>by first|exact absurd rfl h1|exact absurd rfl h5⟩,rfl⟩
  have hin:=hin' (.inl hk1);clear hin' e2 e3 e5;subst hk1;obtain⟨b,o,s,A9,c9,rfl,hb,hs,q0,-⟩:=HI.out.row (k:=0) hin;clear hb;simp only[Nat.add_zero] at q0;have hs0:r.in'.head? =some s:=by rw[List.head?_eq_getElem?];exact hs.out
  go_wp2_with fail
  go_meet
  exact⟨_,rfl,fun hb=>⟨fun _ s' hs'=>by rw[hs0] at hs';injection hs' with hs';subst hs';have:=bne_eq_false_iff_eq.1 hb;omega,fun h=>by omega,fun h=>by omega,fun h1 h2 h3 h5=>by first|exact absurd rfl h1|exact absurd rfl h5⟩,rfl⟩
 case rest=>
 obtain⟨wb,rfl,hW,rfl⟩:=hcut;clear k1 k3 hin';cases wb
 ·have HW:=hd0 (hW rfl);clear hW;go_wp2_with fail
  go_loopw [9] (fun i wr=>∃k:Nat,k<=r.out.length/\i= .int .i64 k/\Hid (Up r.out k (In f.ahO.length))/\Below Wr.heap.size Wr wr) (fun i _=>r.out.length - (intOf i).toNat)
  case atStart=>exact⟨0,by omega,rfl,hd0 (Up.zero _ _),akl _ _⟩
  case round=>
   obtain⟨w1,rfl⟩:∃x,x=wr:=⟨_,rfl⟩
   obtain⟨k,hk,rfl,hup,hbr⟩:=hrel;have HB1:Hid (Below Wr.heap.size Wr w1):=hd0 hbr;have E1:Hid (Below w.heap.size w w1):=hd0 (l7.out.trans (hbr.mono iq));have x1:=aH.out.at hbr 1 rfl;have y3:=sK.out.at hbr 3 rfl;by_cases hlt:k<r.out.length
   ·obtain⟨b,o,e,rfl,hb,hx,q0,r0⟩:=(HO.out.lw ahT.ok hbr).int hlt;clear hb r0 hbr;by_cases h1:e<0
    ·have bh1:decide (e<0)=true:=decide_eq_true h1;go_wp2_with fail
     go_quiet (fail)
     go_wp2_with fail
     go_ret
     exact OkE.bad _ (by decide) (below_drewN E1.out _)
    have bh1:decide (e<0)=false:=decide_eq_false h1;by_cases h2:(f.ahO.length:Int)<=e
    ·have mf:decide ((f.ahO.length:Int)<=e)=true:=decide_eq_true h2;go_wp2_with fail
     go_quiet (fail)
     go_wp2_with fail
     go_ret
     exact OkE.bad _ (by decide) (below_drewN E1.out _)
    have mf:decide ((f.ahO.length:Int)<=e)=false:=decide_eq_false h2;have dm:=hd0 (hup.out.snoc hx.out (In.of h1 h2));go_wp2_with fail
    go_quiet (fail)
    go_wp2_with fail
    go_roundw
    case rel=>exact⟨k+1,by omega,by simp,dm,below_drewN HB1.out _⟩
    case measure=>simp[intOf];omega
   obtain rfl:k=r.out.length:=by omega
   have HU:=hd0 (fun x (hx:x∈r.out)=>hup.out.all x hx);have y1:=sK.out.at hbr 1 rfl;have y4:=sK.out.at hbr 4 rfl;clear hup x1 y3;by_cases h3:6<r.calls.length
   ·have kM:decide ((6:Int)<r.calls.length)=true:=decide_eq_true (by omega);clear hbr;go_wp2_with fail
    go_ret
    exact OkE.bad _ (by decide) E1.out
   have kM:decide ((6:Int)<r.calls.length)=false:=decide_eq_false (by omega);by_cases h4:0<r.calls.length/\¬kd=4
   ·obtain⟨a1,a2⟩:=h4;have uK:decide (0<r.calls.length)=true:=decide_eq_true (by omega);have vI:(kd !=4)=true:=gI a2;clear a1 a2 hbr;go_wp2_with fail
    go_ret
    exact OkE.bad _ (by decide) E1.out
   have hw4:decide (0<r.calls.length)=false\/(decide (0<r.calls.length)=true/\(kd !=4)=false):=by
    by_cases a1:0<r.calls.length
    ·exact .inr ⟨decide_eq_true (by omega),by have:kd=4:=Decidable.not_not.1 fun a2=>h4 ⟨a1,a2⟩;simp[this]⟩
    exact .inl (decide_eq_false (by omega))
   have HNC:Hid (r.calls≠[]->kd=4):=hd0 fun hc=>Decidable.not_not.1 fun a2=>h4 ⟨ale.2 hc,a2⟩
   clear h4;rcases hw4 with uK|⟨uK,vI⟩
   all_goals
    go_wp2_with fail
    go_loopw [10] (fun i wr=>∃k:Nat,k<=r.calls.length/\i= .int .i64 k/\Hid (Up r.calls k (fun c=>In r.in'.length c.at'/\In f.ahP.length c.lookup))/\Below Wr.heap.size Wr wr) (fun i _=>r.calls.length - (intOf i).toNat)
    case atStart=>exact⟨0,by omega,rfl,hd0 (Up.zero _ _),HB1.out⟩
    case round=>
     obtain⟨w2,rfl⟩:∃x,x=wr:=⟨_,rfl⟩
     obtain⟨k,hk,rfl,hup,hb2⟩:=hrel;have HB2:Hid (Below Wr.heap.size Wr w2):=hd0 hb2;have E2:Hid (Below w.heap.size w w2):=hd0 (l7.out.trans (hb2.mono iq));clear y4 y1;have y4:=sK.out.at hb2 4 rfl;by_cases hlt:k<r.calls.length
     ·obtain⟨b,o,x,rfl,hb,hx,q0,q1,-,-⟩:=(HC.out.lw air.ok hb2).call hlt;obtain⟨W3,hW3,hb3,hk3⟩:=aQ w2 95 #[.int .i64 x.at',.int .i64 x.lookup];have HB3:Hid (Below Wr.heap.size Wr W3):=hd0 (hb2.trans (hb3.mono hb2.size));have E3:Hid (Below w.heap.size w W3):=hd0 (l7.out.trans (HB3.out.mono iq));have u1:=sK.out.at HB3.out 1 rfl;have u3:=aH.out.at HB3.out 3 rfl;have p0:=hk3.cell 0;have p1:=hk3.cell 1;clear hb hb3 hk3 hb2;by_cases m1:x.at'<0
      ·have wW:decide (x.at'<0)=true:=decide_eq_true m1;go_wp2_with fail
       go_ret
       exact OkE.bad _ (by decide) E3.out
      have wW:decide (x.at'<0)=false:=decide_eq_false m1;by_cases m2:(r.in'.length:Int)<=x.at'
      ·have EK:decide ((r.in'.length:Int)<=x.at')=true:=decide_eq_true m2;go_wp2_with fail
       go_ret
       exact OkE.bad _ (by decide) E3.out
      have EK:decide ((r.in'.length:Int)<=x.at')=false:=decide_eq_false m2;by_cases m3:x.lookup<0
      ·have Pv:decide (x.lookup<0)=true:=decide_eq_true m3;go_wp2_with fail
       go_ret
       exact OkE.bad _ (by decide) E3.out
      have Pv:decide (x.lookup<0)=false:=decide_eq_false m3;by_cases m4:(f.ahP.length:Int)<=x.lookup
      ·have Yn:decide ((f.ahP.length:Int)<=x.lookup)=true:=decide_eq_true m4;go_wp2_with fail
       go_ret
       exact OkE.bad _ (by decide) E3.out
      have Yn:decide ((f.ahP.length:Int)<=x.lookup)=false:=decide_eq_false m4;obtain⟨lk,hlk⟩:∃n:Nat,x.lookup=n:=⟨x.lookup.toNat,by omega⟩
      obtain⟨b5,o5,l5,A9,c9,Uk,hb5,hl5,v0,-⟩:=(HL.out.lw ah1.ok HB3.out).lookup (k:=lk) (by omega)
      try simp only at Uk
      subst Uk;have dm:=hd0 (hup.out.snoc hx.out ⟨In.of m1 m2,In.of m3 m4⟩);clear hb5 hl5 hx hup;rw[hlk] at p1 Pv Yn q1;have n1:(0:Int)<=lk:=by omega
      have n2:(lk:Int)<f.ahP.length:=by omega
      by_cases m5:l5.kind<1
      ·have bm5:decide (l5.kind<1)=true:=decide_eq_true m5
       try rw[hlk] at hW3
       go_wp2_with fail
       go_ret
       exact OkE.bad _ (by decide) E3.out
      have bm5:decide (l5.kind<1)=false:=decide_eq_false m5;by_cases m6:4<l5.kind
      ·have bm6:decide (4<l5.kind)=true:=decide_eq_true m6
       try rw[hlk] at hW3
       go_wp2_with fail
       go_ret
       exact OkE.bad _ (by decide) E3.out
      have bm6:decide (4<l5.kind)=false:=decide_eq_false m6
      try rw[hlk] at hW3
      go_wp2_with fail
      go_roundw
      case rel=>exact⟨k+1,by omega,by simp,dm,HB3.out⟩
      case measure=>simp[intOf];omega
     obtain rfl:k=r.calls.length:=by omega
     have Yy:=hd0 (fun x (hx:x∈r.calls)=>hup.out.all x hx);have y5:=sK.out.at hb2 5 rfl;clear hup hb2;by_cases m1:fO r.x=false
     ·go_wp2_with (first|(go_at_call 116;refine(dD _ _).mono ?_;rintro e w' ⟨rfl,rfl⟩))
      go_ret
      exact OkE.bad _ (by decide) E2.out
     have wW:fO r.x=true:=by simpa using m1
     by_cases m2:¬r.x=0/\¬kd=6
     ·obtain⟨a1,a2⟩:=m2;have a3:(r.x !=0)=true:=gI a1;have a4:(kd !=6)=true:=gI a2;clear a1 a2;go_wp2_with (first|(go_at_call 116;refine(dD _ _).mono ?_;rintro e w' ⟨rfl,rfl⟩))
      go_ret
      exact OkE.bad _ (by decide) E2.out
     have hw6:(r.x !=0)=false\/((r.x !=0)=true/\(kd !=6)=false):=by
      by_cases a1:r.x=0
      ·exact .inl (by simp[a1])
      exact .inr ⟨gI a1,by have:kd=6:=Decidable.not_not.1 fun a2=>m2 ⟨a1,a2⟩;simp[this]⟩
     have hg:P:=HP.out.mpr ⟨HW.out,HU.out,by omega,Yy.out,HNC.out,mg wW,fun hx=>Decidable.not_not.1 fun a2=>m2 ⟨hx,a2⟩⟩;clear m2;rcases hw6 with a3|⟨a3,a4⟩
     all_goals
      go_wp2_with (first|(go_at_call 116;refine(dD _ _).mono ?_;rintro e w' ⟨rfl,rfl⟩))
      go_ret
      exact OkE.good hg E2.out
 clear hW;go_wp2_with fail
 go_ret
 exact OkE.bad _ (by decide) l7.out
theorem ZA:(Tryz.prog.info? 22).map (fun i=>(i.zero,i.size,i.bytes))=some (some (.slice none 0 0),1,24):=by kernel_rfl
theorem GX {w:World}{A:Option Addr}{xs:List (List Int)}(h:Sl ahV 1 w (Lw w) A xs):∃cells,Fl ahV 1 w (Lw w) cells xs/\Rd w w.heap.size A xs.length 1 cells/\∀u∈cells,u.oneCell'=true:=by
 obtain⟨cells,h1,h2⟩:=h;refine⟨cells,h1,⟨h1.1,fun h0=> ?_⟩,fun u hu=> ?_⟩
 ·obtain⟨b,o,e,hb,hc⟩:=h2 h0;exact⟨b,o,e,hb,hc⟩
 obtain⟨k,hk⟩:=akG.1 hu;have hlt:=(akn.1 hk).1;have hl:=h1.1;obtain⟨x,hx⟩:∃x,xs[k]? =some x:=⟨_,ako (by omega)⟩
 obtain⟨cs,hr,hc⟩:=h1.2 k x hx;obtain⟨A1,c1,rfl,-⟩:=hr;have:=hc.2 0 _ rfl;simp only[Nat.mul_one,Nat.add_zero] at this;rw[hk] at this;cases this;rfl
theorem Xh (w:World)(f:Fnt)(A1 A2 A3 A4 A5 A6 A7 A8:Option Addr)(c1 c2 c3 c4 c5 c6 c7 c8:Nat)(r:aii)(C0 C1 C2 C3 C4:Option Addr)(e0 e1 e2 e3 e4:Nat)(h0:Sl ahV 1 w (Lw w) C0 r.back)(h1:Sl ahV 1 w (Lw w) C1 r.in')(h2:Sl ahV 1 w (Lw w) C2 r.ahead)(hl:r.back.length<=6/\r.in'.length<=6/\r.ahead.length<=6)(hs:∀s∈r.back++r.in'++r.ahead,Big s.length)(hn:Big f.ahO.length):Calls Tryz.prog 158 #[.agg #[.int .i64 f.unit,.slice A1 f.ahO.length c1,.slice A2 f.chars.length c2,.slice A3 f.ahP.length c3,.slice A4 f.features.length c4,.slice A5 f.ahQ.length c5,.slice A6 f.regions.length c6,.slice A7 f.funcs.length c7,.slice A8 f.cvt.length c8],.agg #[.slice C0 r.back.length e0,.slice C1 r.in'.length e1,.slice C2 r.ahead.length e2,.slice C3 r.out.length e3,.slice C4 r.calls.length e4,.int .i64 r.x]] w (OkE w (∀s∈r.back++r.in'++r.ahead,OkS f.ahO.length s)):=by
 obtain⟨P,HP⟩:∃P:Prop,Hid (P=(∀s∈r.back++r.in'++r.ahead,OkS f.ahO.length s)):=⟨_,rfl⟩
 rw[<-HP.out];obtain⟨l0,l1,l2⟩:=hl;unfold Big at hn;obtain⟨Wf,hWf,hbf,bW⟩:=aQ w 32 #[.int .i64 f.unit,.slice A1 f.ahO.length c1,.slice A2 f.chars.length c2,.slice A3 f.ahP.length c3,.slice A4 f.features.length c4,.slice A5 f.ahQ.length c5,.slice A6 f.regions.length c6,.slice A7 f.funcs.length c7,.slice A8 f.cvt.length c8];have aZ:Hid (Below w.heap.size w Wf):=hd0 hbf;have lg:=hd0 bW;obtain⟨Wr,OG,hbr,hkr⟩:=aQ Wf 76 #[.slice C0 r.back.length e0,.slice C1 r.in'.length e1,.slice C2 r.ahead.length e2,.slice C3 r.out.length e3,.slice C4 r.calls.length e4,.int .i64 r.x];have l7:Hid (Below w.heap.size w Wr):=hd0 (aZ.out.trans (hbr.mono aZ.out.size));have sK:=hd0 hkr;have aH:Hid (Bk Wr w.heap.size 32 #[.int .i64 f.unit,.slice A1 f.ahO.length c1,.slice A2 f.chars.length c2,.slice A3 f.ahP.length c3,.slice A4 f.features.length c4,.slice A5 f.ahQ.length c5,.slice A6 f.regions.length c6,.slice A7 f.funcs.length c7,.slice A8 f.cvt.length c8]):=hd0 (Bk.bel bW hbr);obtain⟨x0,F0,R0,O0⟩:=GX ((h0.lw ahV.ok hbf).lw ahV.ok hbr);obtain⟨x1,F1,R1,O1⟩:=GX ((h1.lw ahV.ok hbf).lw ahV.ok hbr);obtain⟨x2,F2,R2,O2⟩:=GX ((h2.lw ahV.ok hbf).lw ahV.ok hbr);have HF:=hd0 ((F0.append F1).append F2);have Q0:=hd0 R0;have Q1:=hd0 R1;have Q2:=hd0 R2;have T0:=hd0 O0;have T1:=hd0 O1;have T2:=hd0 O2;have iq:=l7.out.size;have y0:=hkr.cell 0;have y1:=hkr.cell 1;have y2:=hkr.cell 2;have SR:Wr.cell? ⟨Wf.heap.size,0,none⟩=some (.slice C0 r.back.length e0)/\Wr.cell? ⟨Wf.heap.size,1,none⟩=some (.slice C1 r.in'.length e1)/\Wr.cell? ⟨Wf.heap.size,2,none⟩=some (.slice C2 r.ahead.length e2):=⟨y0,y1,y2⟩
 obtain⟨i0,hi0,hz0,hz1,hz2⟩:=info_parts ZA;clear hbf hbr bW hkr h0 h1 h2 F0 F1 F2 R0 R1 R2 O0 O1 O2 y0 y1 y2;go_enter Tryz.func158,Tryz.ntmps158
 go_upto_block 0 with fail
 try rw[hWf]
 try rw[OG]
 clear hWf OG;go_wp2_with fail
 go_region_held3 (fun w'=>w'.cell? ⟨Wf.heap.size,0,none⟩=some (.slice C0 r.back.length e0)/\w'.cell? ⟨Wf.heap.size,1,none⟩=some (.slice C1 r.in'.length e1)/\w'.cell? ⟨Wf.heap.size,2,none⟩=some (.slice C2 r.ahead.length e2))
  (first
   |with_reducible exact S2
   |with_reducible exact S3
   |with_reducible exact S4
   |exact SR
   |go_keep)
  (first
   |(refine jY _ (by rfl) (.tmp 8) (.tmp 10) 73 (by rfl) Wr.heap.size 22 i0 _ 1 24 Tryz.underlying73 hi0 hz0 hz1 hz2 rfl (by decide) (.slice (some ⟨Wr.heap.size,0,none⟩) 0 0) 0 [] (by go_simp) (by exact(World.ownsRow_made Wr #[] 0 (nr _) (by simp[maxLen]) rfl).drew) Wr.heap.size C0 r.back.length e0 x0 (by go_simp) (by exact(Q0.out.alloc (nr _) _).drew) T0.out (by simp only[maxLen];omega) (by omega) (by simp) ?_;intro v2 w2 o2 g2 _;simp only[ak3,akX] at o2;have K2:Hid (Below Wr.heap.size Wr w2):=hd0 ((((akl _ Wr).alloc (nr _) _).drew).grown g2 (by simp) (fun g hg=>by cases hg;exact nr _));have S2:=And.intro (sK.out.at K2.out 0 rfl) (And.intro (sK.out.at K2.out 1 rfl) (sK.out.at K2.out 2 rfl));have z2:=K2.out.size)
   |(refine jY _ (by rfl) (.tmp 11) (.tmp 13) 73 (by rfl) Wr.heap.size 22 i0 _ 1 24 Tryz.underlying73 hi0 hz0 hz1 hz2 rfl (by decide) v2 r.back.length x0 (by go_simp) o2 Wr.heap.size C1 r.in'.length e1 x1 (by go_simp) (Q1.out.below K2.out (nr _)) T1.out (by simp only[maxLen];omega) (by omega) K2.out.size ?_;intro v3 w3 o3 g3 _;have K3:Hid (Below Wr.heap.size Wr w3):=hd0 (K2.out.grown g3 z2 (fun g hg=>(o2.lt g hg).1));have S3:=And.intro (sK.out.at K3.out 0 rfl) (And.intro (sK.out.at K3.out 1 rfl) (sK.out.at K3.out 2 rfl));have z3:=K3.out.size)
   |(refine jY _ (by rfl) (.tmp 14) (.tmp 16) 73 (by rfl) Wr.heap.size 22 i0 _ 1 24 Tryz.underlying73 hi0 hz0 hz1 hz2 rfl (by decide) v3 (r.back.length+r.in'.length) (x0++x1) (by go_simp) o3 Wr.heap.size C2 r.ahead.length e2 x2 (by go_simp) (Q2.out.below K3.out (nr _)) T2.out (by simp only[maxLen];omega) (by omega) K3.out.size ?_;intro v4 w4 o4 g4 _;have K4:Hid (Below Wr.heap.size Wr w4):=hd0 (K3.out.grown g4 z3 (fun g hg=>(o3.lt g hg).1));have S4:=And.intro (sK.out.at K4.out 0 rfl) (And.intro (sK.out.at K4.out 1 rfl) (sK.out.at K4.out 2 rfl));have z4:=K4.out.size)
   |fail "no arm")
 obtain⟨L,hL⟩:∃L,Hid (L=r.back++r.in'++r.ahead):=⟨_,rfl⟩
 have hlen:r.back.length+r.in'.length+r.ahead.length=L.length:=by rw[hL.out,la,la]
 rw[<-hL.out] at HF hs HP;rw[hlen] at o4;have hlL:L.length<=18:=by omega
 obtain⟨A9,d9,rfl,-⟩:=Rd.ail o4;have sm:Same (Lw Wr) Wr w4:=fun b hb=>K4.out.block b hb
 have HS:Hid (Sl ahV 1 w4 (Lw w4) A9 L):=hd0 (Sl.ail o4 ((HF.out.keep ahV.ok sm).mono ahV.ok fun b hb=>aku hb K4.out.size) (fun b cur h=>h.lt) (by decide));clear o2 o3 o4 g2 g3 g4 S2 S3 S4 SR z2 z3 z4 sm HF Q0 Q1 Q2 T0 T1 T2 hlen;have Hs:=hd0 hs;clear hs;go_wp2_with fail
 go_loopw [6] (fun i wr=>∃k:Nat,k<=L.length/\i= .int .i64 k/\Hid (Up L k (OkS f.ahO.length))/\Below w4.heap.size w4 wr) (fun i _=>L.length - (intOf i).toNat)
 case atStart=>exact⟨0,by omega,rfl,hd0 (Up.zero _ _),akl _ _⟩
 case round=>
  obtain⟨w5,rfl⟩:∃x,x=wr:=⟨_,rfl⟩
  obtain⟨k,hk,rfl,hup,hb5⟩:=hrel;have iD:Hid (Below w4.heap.size w4 w5):=hd0 hb5;have LW:Below Wr.heap.size Wr w5:=K4.out.trans (hb5.mono K4.out.size);have HR5:Hid (Below Wr.heap.size Wr w5):=hd0 LW;have E5:Hid (Below w.heap.size w w5):=hd0 (l7.out.trans (LW.mono iq));by_cases hlt:k<L.length
  ·obtain⟨b,o,x,B1,t1,rfl,hb,hx,q0,s0⟩:=(HS.out.lw ahV.ok hb5).row hlt;have HQ:=hd0 s0;have hxB:=Hs.out x (akt hx.out);have Xt:Hid (Below Wr.heap.size Wr w5.drew):=hd0 LW.drew;have uA:Hid (Below w4.heap.size w4 w5.drew):=hd0 hb5.drew;have S5:=And.intro (nine aH.out Xt.out) (show w5.drew.cell? ⟨b,o+k,none⟩=some (.slice B1 x.length t1) from q0);have hbl:b<w5.drew.heap.size:=hb;clear hb s0 hb5 LW;go_wp2_with fail
   go_region_held3 (fun w'=>(w'.cell? ⟨w.heap.size,0,none⟩=some (.int .i64 f.unit)/\w'.cell? ⟨w.heap.size,1,none⟩=some (.slice A1 f.ahO.length c1)/\w'.cell? ⟨w.heap.size,2,none⟩=some (.slice A2 f.chars.length c2)/\w'.cell? ⟨w.heap.size,3,none⟩=some (.slice A3 f.ahP.length c3)/\w'.cell? ⟨w.heap.size,4,none⟩=some (.slice A4 f.features.length c4)/\w'.cell? ⟨w.heap.size,5,none⟩=some (.slice A5 f.ahQ.length c5)/\w'.cell? ⟨w.heap.size,6,none⟩=some (.slice A6 f.regions.length c6)/\w'.cell? ⟨w.heap.size,7,none⟩=some (.slice A7 f.funcs.length c7)/\w'.cell? ⟨w.heap.size,8,none⟩=some (.slice A8 f.cvt.length c8))/\w'.cell? ⟨b,o+k,none⟩=some (.slice B1 x.length t1))
    (first
     |with_reducible exact S5
     |with_reducible exact S6)
    (first
     |(go_at_call 178;refine(Xg w5.drew f A1 A2 A3 A4 A5 A6 A7 A8 c1 c2 c3 c4 c5 c6 c7 c8 B1 t1 x HQ.out hxB hn).mono ?_;rintro e w6 ⟨be,rfl,hbe,hb6⟩;have HR6:Hid (Below Wr.heap.size Wr w6):=hd0 (Xt.out.trans (hb6.mono Xt.out.size));have gY:Hid (Below w4.heap.size w4 w6):=hd0 (uA.out.trans (hb6.mono uA.out.size));have S6:=And.intro (nine aH.out HR6.out) (show w6.cell? ⟨b,o+k,none⟩=some (.slice B1 x.length t1) from((aj hb6).1 _ _ hbl).trans q0))
     |fail "no arm")
   have E6:Hid (Below w.heap.size w w6):=hd0 (l7.out.trans (HR6.out.mono iq));clear S5 S6;cases be
   ·go_wp2_with fail
    go_ret
    exact OkE.bad _ (by decide) E6.out
   have dm:=hd0 (hup.out.snoc hx.out (hbe rfl));clear hbe;go_wp2_with fail
   go_roundw
   case rel=>exact⟨k+1,by omega,by simp,dm,gY.out⟩
   case measure=>simp[intOf];omega
  obtain rfl:k=L.length:=by omega
  have hg:P:=HP.out.mpr fun x hx=>hup.out.all x hx
  clear hb5 LW;go_wp2_with fail
  go_ret
  exact OkE.good hg E5.out
structure ajc (n m:Nat)(kd:Int)(r:aii):Prop where
 shape:(r.back.length<=6/\r.in'.length<=6/\r.ahead.length<=6)/\r.in'≠[]/\(kd=1\/kd=5->r.in'.length=1)
 sets:∀s∈r.back++r.in'++r.ahead,OkS n s
 outs:ajp n m kd r
structure ai6 (n m:Nat)(l:Lookup):Prop where
 kind:1<=l.kind/\l.kind<=8
 few:l.rules.length<=60
 none:l.rules≠[]->l.kind<=6
 rules:∀r∈l.rules,ajc n m l.kind r
structure ajH (l:Lookup):Prop where
 rules:Big l.rules.length
 rule:∀r∈l.rules,ajq r/\∀s∈r.back++r.in'++r.ahead,Big s.length
theorem six {w w':World}{b o:Nat}{v0 v1 v2 v3 v4 v5:Value}(hl:b<w.heap.size)(hb:Below w.heap.size w w')(q0:w.cell? ⟨b,o,none⟩=some v0)(q1:w.cell? ⟨b,o+1,none⟩=some v1)(q2:w.cell? ⟨b,o+2,none⟩=some v2)(q3:w.cell? ⟨b,o+3,none⟩=some v3)(q4:w.cell? ⟨b,o+4,none⟩=some v4)(q5:w.cell? ⟨b,o+5,none⟩=some v5):
  w'.cell? ⟨b,o,none⟩=some v0/\w'.cell? ⟨b,o+1,none⟩=some v1/\w'.cell? ⟨b,o+2,none⟩=some v2/\w'.cell? ⟨b,o+3,none⟩=some v3/\w'.cell? ⟨b,o+4,none⟩=some v4/\w'.cell? ⟨b,o+5,none⟩=some v5:=
 ⟨((aj hb).1 _ _ hl).trans q0,((aj hb).1 _ _ hl).trans q1,((aj hb).1 _ _ hl).trans q2,((aj hb).1 _ _ hl).trans q3,((aj hb).1 _ _ hl).trans q4,((aj hb).1 _ _ hl).trans q5⟩
theorem xn {w w':World}{b:Nat}{t:TypeId}{v0 v1 v2:Value}(h:Bk w b t #[v0,v1,v2])(hb:Below w.heap.size w w'):w'.cell? ⟨b,0,none⟩=some v0/\w'.cell? ⟨b,1,none⟩=some v1/\w'.cell? ⟨b,2,none⟩=some v2:=⟨h.at hb 0 rfl,h.at hb 1 rfl,h.at hb 2 rfl⟩
theorem PD (w:World)(f:Fnt)(A1 A2 A3 A4 A5 A6 A7 A8:Option Addr)(c1 c2 c3 c4 c5 c6 c7 c8:Nat)(k:Nat)(hF:FIn ⟨A1,c1,A2,c2,A3,c3,A4,c4,A5,c5,A6,c6,A7,c7,A8,c8⟩ f w)(l:Lookup)(hg:f.ahP[k]? =some l)(hk:k<f.ahP.length)(hn:Big f.ahO.length)(hm:Big f.ahP.length)(hB:ajH l):Calls Tryz.prog 113 #[.agg #[.int .i64 f.unit,.slice A1 f.ahO.length c1,.slice A2 f.chars.length c2,.slice A3 f.ahP.length c3,.slice A4 f.features.length c4,.slice A5 f.ahQ.length c5,.slice A6 f.regions.length c6,.slice A7 f.funcs.length c7,.slice A8 f.cvt.length c8],.int .i64 k] w (OkE w (ai6 f.ahO.length f.ahP.length l)):=by
 obtain⟨P,HP⟩:∃P:Prop,Hid (P=(ai6 f.ahO.length f.ahP.length l)):=⟨_,rfl⟩
 rw[<-HP.out];unfold Big at hn hm;have HG:=hd0 hg;obtain⟨Wf,hWf,hbf,bW⟩:=aQ w 32 #[.int .i64 f.unit,.slice A1 f.ahO.length c1,.slice A2 f.chars.length c2,.slice A3 f.ahP.length c3,.slice A4 f.features.length c4,.slice A5 f.ahQ.length c5,.slice A6 f.regions.length c6,.slice A7 f.funcs.length c7,.slice A8 f.cvt.length c8];have aZ:Hid (Below w.heap.size w Wf):=hd0 hbf;have lg:=hd0 bW;have kN:=hd0 (hF.below hbf);obtain⟨b,o,x,B2,d2,hA1,hb,hx,q0,q1,q2,r1,s2⟩:=kN.out.ahP.lookup (k:=k) hk;simp only at hA1;subst hA1;obtain rfl:x=l:=by have:=hx.out;rw[HG.out] at this;exact(Option.some.inj this).symm
 obtain⟨Wl,hWl,hbl,hkl⟩:=aQ Wf 72 #[.int .i64 x.kind,.bool x.aik,.slice B2 x.rules.length d2];have rf:Hid (Below w.heap.size w Wl):=hd0 (aZ.out.trans (hbl.mono aZ.out.size));have AV:=hd0 hkl;have aH:Hid (Bk Wl w.heap.size 32 #[.int .i64 f.unit,.slice A1 f.ahO.length c1,.slice A2 f.chars.length c2,.slice (some ⟨b,o,none⟩) f.ahP.length c3,.slice A4 f.features.length c4,.slice A5 f.ahQ.length c5,.slice A6 f.regions.length c6,.slice A7 f.funcs.length c7,.slice A8 f.cvt.length c8]):=hd0 (Bk.bel bW hbl);have hzl:=rf.out.size;have k3:=bW.cell 3;have m0:=hkl.cell 0;have m2:=hkl.cell 2;have HRl:=hd0 (s2.lw aig.ok hbl);have YF:=hd0 (kN.out.ahP.lw ah1.ok hbl);have l7:=hd0 hB.rule;obtain⟨hB1,-⟩:=hB;unfold Big at hB1;clear hb r1 s2 hF hg hx;have bn1:decide ((k:Int)<0)=false:=decide_eq_false (by omega);have bn2:decide ((f.ahP.length:Int)<=(k:Int))=false:=decide_eq_false (by omega);go_enter Tryz.func113,Tryz.ntmps113
 clear hbf bW hbl hkl;by_cases h1:x.kind<1
 ·have bh1:decide (x.kind<1)=true:=decide_eq_true h1;go_wp2_with fail
  go_ret
  exact OkE.bad _ (by decide) rf.out
 have bh1:decide (x.kind<1)=false:=decide_eq_false h1;by_cases h2:8<x.kind
 ·have mf:decide (8<x.kind)=true:=decide_eq_true h2;go_wp2_with fail
  go_ret
  exact OkE.bad _ (by decide) rf.out
 have mf:decide (8<x.kind)=false:=decide_eq_false h2;by_cases h3:60<x.rules.length
 ·have kM:decide ((60:Int)<x.rules.length)=true:=decide_eq_true (by omega);go_wp2_with fail
  go_ret
  exact OkE.bad _ (by decide) rf.out
 have kM:decide ((60:Int)<x.rules.length)=false:=decide_eq_false (by omega);by_cases h4:0<x.rules.length/\7<=x.kind
 ·obtain⟨a1,a2⟩:=h4;have b4:decide (0<x.rules.length)=true:=decide_eq_true a1;have b5:decide (7<=x.kind)=true:=decide_eq_true a2;go_wp2_with fail
  go_ret
  exact OkE.bad _ (by decide) rf.out
 have hw4:decide (0<x.rules.length)=false\/(decide (0<x.rules.length)=true/\decide (7<=x.kind)=false):=by
  by_cases a1:0<x.rules.length
  ·exact .inr ⟨decide_eq_true a1,decide_eq_false fun a2=>h4 ⟨a1,a2⟩⟩
  exact .inl (decide_eq_false a1)
 have HNO:Hid (x.rules≠[]->x.kind<=6):=hd0 fun hc=>by
  have a1:0<x.rules.length:=ale.2 hc;have a2:¬7<=x.kind:=fun a2=>h4 ⟨a1,a2⟩
  omega
 clear h4;rcases hw4 with b4|⟨b4,b5⟩
 all_goals
  go_wp2_with fail
  try clear hWf
  try clear hWl
  clear k3 q0 q1 q2;go_loopw [6] (fun i wr=>∃q:Nat,q<=x.rules.length/\i= .int .i64 q/\Hid (Up x.rules q (ajc f.ahO.length f.ahP.length x.kind))/\Below Wl.heap.size Wl wr) (fun i _=>x.rules.length - (intOf i).toNat)
  case atStart=>exact⟨0,by omega,rfl,hd0 (Up.zero _ _),akl _ _⟩
  case round=>
   obtain⟨w5,rfl⟩:∃x,x=wr:=⟨_,rfl⟩
   obtain⟨q,hq,rfl,hup,hb5⟩:=hrel;have iD:Hid (Below Wl.heap.size Wl w5):=hd0 hb5;have E5:Hid (Below w.heap.size w w5):=hd0 (rf.out.trans (hb5.mono hzl));clear m0 m2;have m2:=AV.out.at hb5 2 rfl;by_cases hlt:q<x.rules.length
   ·obtain⟨b2,o2,y,D0,t0,D1,t1,D2,t2,D3,t3,D4,t4,rfl,hbl,hy,q0,q1,q2,q3,q4,q5,-,s0,s1,s2,s3,s4⟩:=HRl.out.rule hlt;have hyB:=l7.out y (akt hy.out);replace s0:=hd0 s0;replace s1:=hd0 s1;replace s2:=hd0 s2;replace s3:=hd0 s3;replace s4:=hd0 s4;clear hb5;have uA:Hid (Below Wl.heap.size Wl w5.drew):=hd0 iD.out.drew;have S5d:=And.intro (nine aH.out uA.out) (And.intro (xn AV.out uA.out) (six hbl uA.out q0 q1 q2 q3 q4 q5));go_wp2_with fail
    go_region_held3 (fun w'=>(w'.cell? ⟨w.heap.size,0,none⟩=some (.int .i64 f.unit)/\w'.cell? ⟨w.heap.size,1,none⟩=some (.slice A1 f.ahO.length c1)/\w'.cell? ⟨w.heap.size,2,none⟩=some (.slice A2 f.chars.length c2)/\w'.cell? ⟨w.heap.size,3,none⟩=some (.slice (some ⟨b,o,none⟩) f.ahP.length c3)/\w'.cell? ⟨w.heap.size,4,none⟩=some (.slice A4 f.features.length c4)/\w'.cell? ⟨w.heap.size,5,none⟩=some (.slice A5 f.ahQ.length c5)/\w'.cell? ⟨w.heap.size,6,none⟩=some (.slice A6 f.regions.length c6)/\w'.cell? ⟨w.heap.size,7,none⟩=some (.slice A7 f.funcs.length c7)/\w'.cell? ⟨w.heap.size,8,none⟩=some (.slice A8 f.cvt.length c8))/\(w'.cell? ⟨Wf.heap.size,0,none⟩=some (.int .i64 x.kind)/\w'.cell? ⟨Wf.heap.size,1,none⟩=some (.bool x.aik)/\w'.cell? ⟨Wf.heap.size,2,none⟩=some (.slice (some ⟨b2,o2,none⟩) x.rules.length d2))/\(w'.cell? ⟨b2,o2+q*6,none⟩=some (.slice D0 y.back.length t0)/\w'.cell? ⟨b2,o2+q*6+1,none⟩=some (.slice D1 y.in'.length t1)/\w'.cell? ⟨b2,o2+q*6+2,none⟩=some (.slice D2 y.ahead.length t2)/\w'.cell? ⟨b2,o2+q*6+3,none⟩=some (.slice D3 y.out.length t3)/\w'.cell? ⟨b2,o2+q*6+4,none⟩=some (.slice D4 y.calls.length t4)/\w'.cell? ⟨b2,o2+q*6+5,none⟩=some (.int .i64 y.x)))
     (first
      |with_reducible exact S5d
      |with_reducible exact S6)
     (first
      |(go_at_call 157;refine(U8 w5.drew x.kind y D0 D1 D2 D3 D4 t0 t1 t2 t3 t4 hyB.1).mono ?_;rintro e w6 ⟨r6,rfl,vk,hb6⟩;have gY:Hid (Below Wl.heap.size Wl w6):=hd0 (uA.out.trans (hb6.mono uA.out.size));have S6:=And.intro (nine aH.out gY.out) (And.intro (xn AV.out gY.out) (six hbl gY.out q0 q1 q2 q3 q4 q5));clear hb6)
      |fail "no arm")
    have E6:Hid (Below w.heap.size w w6):=hd0 (rf.out.trans (gY.out.mono hzl));clear S5d S6;by_cases hr:r6=0
    ·have K6:=hd0 (vk hr);clear vk;subst hr;have Bz:Hid (Below Wl.heap.size Wl w6.drew):=hd0 gY.out.drew;have S6d:=And.intro (nine aH.out Bz.out) (And.intro (xn AV.out Bz.out) (six hbl Bz.out q0 q1 q2 q3 q4 q5));go_wp2_with fail
     go_region_held3 (fun w'=>(w'.cell? ⟨w.heap.size,0,none⟩=some (.int .i64 f.unit)/\w'.cell? ⟨w.heap.size,1,none⟩=some (.slice A1 f.ahO.length c1)/\w'.cell? ⟨w.heap.size,2,none⟩=some (.slice A2 f.chars.length c2)/\w'.cell? ⟨w.heap.size,3,none⟩=some (.slice (some ⟨b,o,none⟩) f.ahP.length c3)/\w'.cell? ⟨w.heap.size,4,none⟩=some (.slice A4 f.features.length c4)/\w'.cell? ⟨w.heap.size,5,none⟩=some (.slice A5 f.ahQ.length c5)/\w'.cell? ⟨w.heap.size,6,none⟩=some (.slice A6 f.regions.length c6)/\w'.cell? ⟨w.heap.size,7,none⟩=some (.slice A7 f.funcs.length c7)/\w'.cell? ⟨w.heap.size,8,none⟩=some (.slice A8 f.cvt.length c8))/\(w'.cell? ⟨Wf.heap.size,0,none⟩=some (.int .i64 x.kind)/\w'.cell? ⟨Wf.heap.size,1,none⟩=some (.bool x.aik)/\w'.cell? ⟨Wf.heap.size,2,none⟩=some (.slice (some ⟨b2,o2,none⟩) x.rules.length d2))/\(w'.cell? ⟨b2,o2+q*6,none⟩=some (.slice D0 y.back.length t0)/\w'.cell? ⟨b2,o2+q*6+1,none⟩=some (.slice D1 y.in'.length t1)/\w'.cell? ⟨b2,o2+q*6+2,none⟩=some (.slice D2 y.ahead.length t2)/\w'.cell? ⟨b2,o2+q*6+3,none⟩=some (.slice D3 y.out.length t3)/\w'.cell? ⟨b2,o2+q*6+4,none⟩=some (.slice D4 y.calls.length t4)/\w'.cell? ⟨b2,o2+q*6+5,none⟩=some (.int .i64 y.x)))
      (first
       |with_reducible exact S6d
       |with_reducible exact S7)
      (first
       |(go_at_call 158;refine(Xh w6.drew f A1 A2 (some ⟨b,o,none⟩) A4 A5 A6 A7 A8 c1 c2 c3 c4 c5 c6 c7 c8 y D0 D1 D2 D3 D4 t0 t1 t2 t3 t4 (s0.out.lw ahV.ok Bz.out) (s1.out.lw ahV.ok Bz.out) (s2.out.lw ahV.ok Bz.out) K6.out.1 hyB.2 hn).mono ?_;rintro e w7 ⟨r7,rfl,JI,hb7⟩;have nJ:Hid (Below Wl.heap.size Wl w7):=hd0 (Bz.out.trans (hb7.mono Bz.out.size));have S7:=And.intro (nine aH.out nJ.out) (And.intro (xn AV.out nJ.out) (six hbl nJ.out q0 q1 q2 q3 q4 q5));clear hb7)
       |fail "no arm")
     have E7:Hid (Below w.heap.size w w7):=hd0 (rf.out.trans (nJ.out.mono hzl));clear S6d S7;by_cases hr:r7=0
     ·have K7:=hd0 (JI hr);clear JI;subst hr;have jG:Hid (Below Wl.heap.size Wl w7.drew):=hd0 nJ.out.drew;have S7d:=And.intro (nine aH.out jG.out) (And.intro (xn AV.out jG.out) (six hbl jG.out q0 q1 q2 q3 q4 q5));go_wp2_with fail
      go_region_held3 (fun w'=>(w'.cell? ⟨w.heap.size,0,none⟩=some (.int .i64 f.unit)/\w'.cell? ⟨w.heap.size,1,none⟩=some (.slice A1 f.ahO.length c1)/\w'.cell? ⟨w.heap.size,2,none⟩=some (.slice A2 f.chars.length c2)/\w'.cell? ⟨w.heap.size,3,none⟩=some (.slice (some ⟨b,o,none⟩) f.ahP.length c3)/\w'.cell? ⟨w.heap.size,4,none⟩=some (.slice A4 f.features.length c4)/\w'.cell? ⟨w.heap.size,5,none⟩=some (.slice A5 f.ahQ.length c5)/\w'.cell? ⟨w.heap.size,6,none⟩=some (.slice A6 f.regions.length c6)/\w'.cell? ⟨w.heap.size,7,none⟩=some (.slice A7 f.funcs.length c7)/\w'.cell? ⟨w.heap.size,8,none⟩=some (.slice A8 f.cvt.length c8))/\(w'.cell? ⟨Wf.heap.size,0,none⟩=some (.int .i64 x.kind)/\w'.cell? ⟨Wf.heap.size,1,none⟩=some (.bool x.aik)/\w'.cell? ⟨Wf.heap.size,2,none⟩=some (.slice (some ⟨b2,o2,none⟩) x.rules.length d2))/\(w'.cell? ⟨b2,o2+q*6,none⟩=some (.slice D0 y.back.length t0)/\w'.cell? ⟨b2,o2+q*6+1,none⟩=some (.slice D1 y.in'.length t1)/\w'.cell? ⟨b2,o2+q*6+2,none⟩=some (.slice D2 y.ahead.length t2)/\w'.cell? ⟨b2,o2+q*6+3,none⟩=some (.slice D3 y.out.length t3)/\w'.cell? ⟨b2,o2+q*6+4,none⟩=some (.slice D4 y.calls.length t4)/\w'.cell? ⟨b2,o2+q*6+5,none⟩=some (.int .i64 y.x)))
       (first
        |with_reducible exact S7d
        |with_reducible exact S8)
       (first
        |(go_at_call 159;refine(VW w7.drew f A1 A2 (some ⟨b,o,none⟩) A4 A5 A6 A7 A8 c1 c2 c3 c4 c5 c6 c7 c8 x.kind y D0 D1 D2 D3 D4 t0 t1 t2 t3 t4 (s1.out.lw ahV.ok jG.out) (s3.out.lw ahT.ok jG.out) (s4.out.lw air.ok jG.out) (YF.out.lw ah1.ok jG.out) (fun h=>by have:=K6.out.2.2 h;omega) hyB.1 hn hm).mono ?_;rintro e w8 ⟨r8,rfl,Df,hb8⟩;have lD:Hid (Below Wl.heap.size Wl w8):=hd0 (jG.out.trans (hb8.mono jG.out.size));have S8:=And.intro (nine aH.out lD.out) (And.intro (xn AV.out lD.out) (six hbl lD.out q0 q1 q2 q3 q4 q5));clear hb8)
        |fail "no arm")
      have E8:Hid (Below w.heap.size w w8):=hd0 (rf.out.trans (lD.out.mono hzl));clear S7d S8;by_cases hr:r8=0
      ·have K8:=hd0 (Df hr);clear Df;subst hr;have dm:=hd0 (hup.out.snoc hy.out ⟨K6.out,K7.out,K8.out⟩);go_wp2_with fail
       go_roundw
       case rel=>exact⟨q+1,by omega,by simp,dm,lD.out⟩
       case measure=>simp[intOf];omega
      clear Df;have MO:(r8==0)=false:=eH hr;have OU:(r8 !=0)=true:=gI hr;go_wp2_with fail
      go_ret
      exact OkE.bad r8 hr E8.out
     clear JI;have MO:(r7==0)=false:=eH hr;have OU:(r7 !=0)=true:=gI hr;go_wp2_with fail
     go_ret
     exact OkE.bad r7 hr E7.out
    clear vk;have MO:(r6==0)=false:=eH hr;have OU:(r6 !=0)=true:=gI hr;go_wp2_with fail
    go_ret
    exact OkE.bad r6 hr E6.out
   obtain rfl:q=x.rules.length:=by omega
   have hg:P:=HP.out.mpr ⟨⟨by omega,by omega⟩,by omega,HNO.out,fun r hr=>hup.out.all r hr⟩;clear hb5;go_wp2_with fail
   go_ret
   exact OkE.good hg E5.out
end
end Go.Proofs.YtkijckccfookeaaGreatDoor
