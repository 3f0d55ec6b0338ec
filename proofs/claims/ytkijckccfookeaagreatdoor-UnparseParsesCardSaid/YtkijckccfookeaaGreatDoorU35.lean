/- Lemmas. -/
import Derived.Test.YtkijckccfookeaaGreatDoorUnI
import Derived.Test.YtkijckccfookeaaGreatDoorPbB
set_option linter.unusedVariables false
set_option linter.unusedSimpArgs false
set_option maxRecDepth 100000
set_option maxHeartbeats 32000000
namespace Go.Proofs.YtkijckccfookeaaGreatDoor
section
open Go.RowKit
theorem su (w:World)(p F:Nat):Calls Tryz.prog 80 #[.pointer (some ⟨p,0,none⟩),.func (.func F) #[.pointer (some ⟨p,0,none⟩)] #[]] w fun e w'=>e= .returned (.func (.func 129) #[] #[.pointer (some ⟨w.heap.size,0,none⟩),.pointer (some ⟨w.heap.size+1,0,none⟩)])/\
  w'=(w.alloc (.cells #[.pointer (some ⟨p,0,none⟩)] 111)).alloc (.cells #[.func (.func F) #[.pointer (some ⟨p,0,none⟩)] #[]] 160):=by
 go_enter Tryz.func80,Tryz.ntmps80
 go_wp2;go_ret
 exact⟨by simp,rfl⟩
theorem Qc (w:World)(p F:Nat):Calls Tryz.prog 88 #[.pointer (some ⟨p,0,none⟩),.func (.func F) #[.pointer (some ⟨p,0,none⟩)] #[]] w fun e w'=>e= .returned (.func (.func 133) #[] #[.pointer (some ⟨w.heap.size,0,none⟩),.pointer (some ⟨w.heap.size+1,0,none⟩)])/\
  w'=(w.alloc (.cells #[.pointer (some ⟨p,0,none⟩)] 111)).alloc (.cells #[.func (.func F) #[.pointer (some ⟨p,0,none⟩)] #[]] 162):=by
 go_enter Tryz.func88,Tryz.ntmps88
 go_wp2;go_ret
 exact⟨by simp,rfl⟩
def pV (p F:Nat):Value:= .func (.func F) #[.pointer (some ⟨p,0,none⟩)] #[]
def cV (F a b:Nat):Value:= .func (.func F) #[] #[.pointer (some ⟨a,0,none⟩),.pointer (some ⟨b,0,none⟩)]
structure alb (w:World)(t:TypeId)(p F a b:Nat):Prop where
 par:Bk w a 111 #[.pointer (some ⟨p,0,none⟩)]
 fn:Bk w b t #[pV p F]
theorem alb.below {w w':World}{t:TypeId}{p F a b:Nat}(h:alb w t p F a b)(hb:Below w.heap.size w w'):alb w' t p F a b:=⟨h.par.keep (hb.block _ h.par.lt),h.fn.keep (hb.block _ h.fn.lt)⟩
theorem alb.grown {w w':World}{t:TypeId}{p F a b m:Nat}(h:alb w t p F a b)(hg:w.grownBy w' (some m))(hm:∃es c,w.heap[m]? =some (.map es c)):alb w' t p F a b:=by
 obtain⟨es,c,hm⟩:=hm;refine⟨h.par.keep (hg.block _ h.par.lt fun e=> ?_),h.fn.keep (hg.block _ h.fn.lt fun e=> ?_)⟩
 ·injection e with e
  subst e;have:=h.par;unfold Bk at this;rw[hm] at this;cases this
 injection e with e
 subst e;have:=h.fn;unfold Bk at this;rw[hm] at this;cases this
theorem alb.new (w:World)(t:TypeId)(p F:Nat):alb ((w.alloc (.cells #[.pointer (some ⟨p,0,none⟩)] 111)).alloc (.cells #[pV p F] t)) t p F w.heap.size (w.heap.size+1):=by refine⟨(Bk.new w _ _).alloc _,?_⟩;have:=Bk.new (w.alloc (.cells #[.pointer (some ⟨p,0,none⟩)] 111)) t #[pV p F];simpa using this
theorem ad7 (w:World):(Instr.makeMap 117 none).run Tryz.prog w= .ok (.map (some w.heap.size)) (w.alloc (.map #[] 0)):=by
 simp[Instr.makeMap,run_underlying Tryz.underlying117,Result.andThen,newObj,go_sem]
 try rfl
structure amc (w:World)(p M:Nat)(f:B->Option Value)(jD jE pY qp kH kJ mM mX pX pU pW qf:Nat):Prop where
 map:akW mi w M f
 anh:f lI=some (pV p 73)
 ang:f uz=some (pV p 74)
 amR:f jQ=some (pV p 75)
 anm:f mr=some (pV p 76)
 anl:f qo=some (pV p 77)
 am0:f yF=some (pV p 78)
 amX:f dY=some (pV p 79)
 amz:f fU=some (cV 129 jD jE)
 akV:alb w 160 p 81 jD jE
 anj:f qj=some (cV 129 pY qp)
 alf:alb w 160 p 82 pY qp
 amS:f kM=some (cV 129 kH kJ)
 ak4:alb w 160 p 83 kH kJ
 am5:f mO=some (cV 129 mM mX)
 alk:alb w 160 p 84 mM mX
 ank:f nO=some (cV 129 pX pU)
 alz:alb w 160 p 85 pX pU
 anf:f uF=some (pV p 86)
 amV:f gX=some (pV p 87)
 ani:f dL=some (cV 133 pW qf)
 alU:alb w 162 p 89 pW qf
 amI:f jC=some (pV p 90)
 none:∀t,t≠lI->t≠uz->t≠jQ->t≠mr->t≠qo->t≠yF->t≠dY->t≠fU->t≠qj->t≠kM->t≠mO->t≠nO->t≠uF->t≠gX->t≠dL->t≠jC->f t=none
theorem Lt (w:World)(p:Nat):Calls Tryz.prog 40 #[.pointer (some ⟨p,0,none⟩)] w fun e w'=>∃M f jD jE pY qp kH kJ mM mX pX pU pW qf,e= .returned (.map (some M))/\w.heap.size<=M/\amc w' p M f jD jE pY qp kH kJ mM mX pX pU pW qf/\Below w.heap.size w w':=by
 go_enter Tryz.func40,Tryz.ntmps40
 have hmk:=ad7 w;have hm0:=akW.new mi w;have hb0:Below w.heap.size w (w.alloc (.map #[] 0)):=(ant _ _).alloc (af _) _;obtain⟨w1,hp1,hm1,hg1⟩:=hm0.put Tryz.underlying117 Tryz.underlying9 lI (.func (.func 73) #[.pointer (some ⟨p,0,none⟩)] #[]) (by first|rfl|simp);have hq1:(Instr.mapUpdate 117 (.map (some w.heap.size)) (.string ⟨#[117,110,105,116]⟩) (.func (.func 73) #[.pointer (some ⟨p,0,none⟩)] #[])).run Tryz.prog (w.alloc (.map #[] 0))= .ok () w1:=hp1;have hb1:Below w.heap.size w w1:=hb0.grown hg1 hb0.size (fun k e=>by cases e;exact af _);clear hp1;obtain⟨w2,hp2,hm2,hg2⟩:=hm1.put Tryz.underlying117 Tryz.underlying9 uz (.func (.func 74) #[.pointer (some ⟨p,0,none⟩)] #[]) (by first|rfl|simp);have hq2:(Instr.mapUpdate 117 (.map (some w.heap.size)) (.string ⟨#[97,120,105,115]⟩) (.func (.func 74) #[.pointer (some ⟨p,0,none⟩)] #[])).run Tryz.prog w1= .ok () w2:=hp2;have hb2:Below w.heap.size w w2:=hb1.grown hg2 hb1.size (fun k e=>by cases e;exact af _);clear hp2;obtain⟨w3,hp3,bn,hg3⟩:=hm2.put Tryz.underlying117 Tryz.underlying9 jQ (.func (.func 75) #[.pointer (some ⟨p,0,none⟩)] #[]) (by first|rfl|simp);have hq3:(Instr.mapUpdate 117 (.map (some w.heap.size)) (.string ⟨#[114,101,103,105,111,110]⟩) (.func (.func 75) #[.pointer (some ⟨p,0,none⟩)] #[])).run Tryz.prog w2= .ok () w3:=hp3;have hb3:Below w.heap.size w w3:=hb2.grown hg3 hb2.size (fun k e=>by cases e;exact af _);clear hp3;obtain⟨w4,QQ,hm4,hg4⟩:=bn.put Tryz.underlying117 Tryz.underlying9 mr (.func (.func 76) #[.pointer (some ⟨p,0,none⟩)] #[]) (by first|rfl|simp);have hq4:(Instr.mapUpdate 117 (.map (some w.heap.size)) (.string ⟨#[99,118,116]⟩) (.func (.func 76) #[.pointer (some ⟨p,0,none⟩)] #[])).run Tryz.prog w3= .ok () w4:=QQ;have hb4:Below w.heap.size w w4:=hb3.grown hg4 hb3.size (fun k e=>by cases e;exact af _);clear QQ;obtain⟨w5,hp5,Ii,hg5⟩:=hm4.put Tryz.underlying117 Tryz.underlying9 qo (.func (.func 77) #[.pointer (some ⟨p,0,none⟩)] #[]) (by first|rfl|simp);have hq5:(Instr.mapUpdate 117 (.map (some w.heap.size)) (.string ⟨#[102,117,110,99]⟩) (.func (.func 77) #[.pointer (some ⟨p,0,none⟩)] #[])).run Tryz.prog w4= .ok () w5:=hp5;have hb5:Below w.heap.size w w5:=hb4.grown hg5 hb4.size (fun k e=>by cases e;exact af _);clear hp5;obtain⟨w6,hp6,uS,Q4⟩:=Ii.put Tryz.underlying117 Tryz.underlying9 yF (.func (.func 78) #[.pointer (some ⟨p,0,none⟩)] #[]) (by first|rfl|simp);have hq6:(Instr.mapUpdate 117 (.map (some w.heap.size)) (.string ⟨#[99,108,97,115,115]⟩) (.func (.func 78) #[.pointer (some ⟨p,0,none⟩)] #[])).run Tryz.prog w5= .ok () w6:=hp6;have hb6:Below w.heap.size w w6:=hb5.grown Q4 hb5.size (fun k e=>by cases e;exact af _);clear hp6;obtain⟨w7,hp7,QD,QU⟩:=uS.put Tryz.underlying117 Tryz.underlying9 dY (.func (.func 79) #[.pointer (some ⟨p,0,none⟩)] #[]) (by first|rfl|simp);have hq7:(Instr.mapUpdate 117 (.map (some w.heap.size)) (.string ⟨#[103,108,121,112,104]⟩) (.func (.func 79) #[.pointer (some ⟨p,0,none⟩)] #[])).run Tryz.prog w6= .ok () w7:=hp7;have hb7:Below w.heap.size w w7:=hb6.grown QU hb6.size (fun k e=>by cases e;exact af _);clear hp7;go_wp2_with fail
 refine(su w7 p 81).mono ?_;rintro e w'' ⟨rfl,rfl⟩;obtain⟨u7,hu7⟩:∃u,((w7.alloc (.cells #[.pointer (some ⟨p,0,none⟩)] 111)).alloc (.cells #[.func (.func 81) #[.pointer (some ⟨p,0,none⟩)] #[]] 160))=u:=⟨_,rfl⟩
 have akV:alb u7 160 p 81 w7.heap.size (w7.heap.size+1):=hu7 ▸ alb.new w7 160 p 81;have Zp:Below w7.heap.size w7 u7:=hu7 ▸ ((ant _ _).alloc (af _) _).alloc (by simp) _;have QD:=QD.below Zp;have hb7:=hb7.trans (Zp.mono hb7.size);rw[hu7];clear hu7 Zp;obtain⟨w8,hp8,Ku,QW⟩:=QD.put Tryz.underlying117 Tryz.underlying9 fU (.func (.func 129) #[] #[.pointer (some ⟨w7.heap.size,0,none⟩),.pointer (some ⟨w7.heap.size+1,0,none⟩)]) (by first|rfl|simp);have hq8:(Instr.mapUpdate 117 (.map (some w.heap.size)) (.string ⟨#[99,111,110,116,111,117,114]⟩) (.func (.func 129) #[] #[.pointer (some ⟨w7.heap.size,0,none⟩),.pointer (some ⟨w7.heap.size+1,0,none⟩)])).run Tryz.prog u7= .ok () w8:=hp8;have hb8:Below w.heap.size w w8:=hb7.grown QW hb7.size (fun k e=>by cases e;exact af _);clear hp8;have akV:=akV.grown QW QD.isMap;go_wp2_with fail
 refine(su w8 p 82).mono ?_;rintro e w'' ⟨rfl,rfl⟩;obtain⟨u8,hu8⟩:∃u,((w8.alloc (.cells #[.pointer (some ⟨p,0,none⟩)] 111)).alloc (.cells #[.func (.func 82) #[.pointer (some ⟨p,0,none⟩)] #[]] 160))=u:=⟨_,rfl⟩
 have alf:alb u8 160 p 82 w8.heap.size (w8.heap.size+1):=hu8 ▸ alb.new w8 160 p 82;have UA:Below w8.heap.size w8 u8:=hu8 ▸ ((ant _ _).alloc (af _) _).alloc (by simp) _;have Ku:=Ku.below UA;have hb8:=hb8.trans (UA.mono hb8.size);have akV:=akV.below UA;rw[hu8];clear hu8 UA;obtain⟨w9,bP,sK,ax⟩:=Ku.put Tryz.underlying117 Tryz.underlying9 qj (.func (.func 129) #[] #[.pointer (some ⟨w8.heap.size,0,none⟩),.pointer (some ⟨w8.heap.size+1,0,none⟩)]) (by first|rfl|simp);have tK:(Instr.mapUpdate 117 (.map (some w.heap.size)) (.string ⟨#[112,97,114,116]⟩) (.func (.func 129) #[] #[.pointer (some ⟨w8.heap.size,0,none⟩),.pointer (some ⟨w8.heap.size+1,0,none⟩)])).run Tryz.prog u8= .ok () w9:=bP;have dB:Below w.heap.size w w9:=hb8.grown ax hb8.size (fun k e=>by cases e;exact af _);clear bP;have akV:=akV.grown ax Ku.isMap;have alf:=alf.grown ax Ku.isMap;go_wp2_with fail
 refine(su w9 p 83).mono ?_;rintro e w'' ⟨rfl,rfl⟩;obtain⟨u9,NY⟩:∃u,((w9.alloc (.cells #[.pointer (some ⟨p,0,none⟩)] 111)).alloc (.cells #[.func (.func 83) #[.pointer (some ⟨p,0,none⟩)] #[]] 160))=u:=⟨_,rfl⟩
 have ak4:alb u9 160 p 83 w9.heap.size (w9.heap.size+1):=NY ▸ alb.new w9 160 p 83;have OB:Below w9.heap.size w9 u9:=NY ▸ ((ant _ _).alloc (af _) _).alloc (by simp) _;have sK:=sK.below OB;have dB:=dB.trans (OB.mono dB.size);have akV:=akV.below OB;have alf:=alf.below OB;rw[NY];clear NY OB;obtain⟨w10,JB,F9,rE⟩:=sK.put Tryz.underlying117 Tryz.underlying9 kM (.func (.func 129) #[] #[.pointer (some ⟨w9.heap.size,0,none⟩),.pointer (some ⟨w9.heap.size+1,0,none⟩)]) (by first|rfl|simp);have hq10:(Instr.mapUpdate 117 (.map (some w.heap.size)) (.string ⟨#[97,110,99,104,111,114]⟩) (.func (.func 129) #[] #[.pointer (some ⟨w9.heap.size,0,none⟩),.pointer (some ⟨w9.heap.size+1,0,none⟩)])).run Tryz.prog u9= .ok () w10:=JB;have pF:Below w.heap.size w w10:=dB.grown rE dB.size (fun k e=>by cases e;exact af _);clear JB;have akV:=akV.grown rE sK.isMap;have alf:=alf.grown rE sK.isMap;have ak4:=ak4.grown rE sK.isMap;go_wp2_with fail
 refine(su w10 p 84).mono ?_;rintro e w'' ⟨rfl,rfl⟩;obtain⟨u10,Vg⟩:∃u,((w10.alloc (.cells #[.pointer (some ⟨p,0,none⟩)] 111)).alloc (.cells #[.func (.func 84) #[.pointer (some ⟨p,0,none⟩)] #[]] 160))=u:=⟨_,rfl⟩
 have alk:alb u10 160 p 84 w10.heap.size (w10.heap.size+1):=Vg ▸ alb.new w10 160 p 84;have Dz:Below w10.heap.size w10 u10:=Vg ▸ ((ant _ _).alloc (af _) _).alloc (by simp) _;have F9:=F9.below Dz;have pF:=pF.trans (Dz.mono pF.size);have akV:=akV.below Dz;have alf:=alf.below Dz;have ak4:=ak4.below Dz;rw[Vg];clear Vg Dz;obtain⟨jh,aeP,BO,NK⟩:=F9.put Tryz.underlying117 Tryz.underlying9 mO (.func (.func 129) #[] #[.pointer (some ⟨w10.heap.size,0,none⟩),.pointer (some ⟨w10.heap.size+1,0,none⟩)]) (by first|rfl|simp);have hq11:(Instr.mapUpdate 117 (.map (some w.heap.size)) (.string ⟨#[100,101,108,116,97]⟩) (.func (.func 129) #[] #[.pointer (some ⟨w10.heap.size,0,none⟩),.pointer (some ⟨w10.heap.size+1,0,none⟩)])).run Tryz.prog u10= .ok () jh:=aeP;have pq:Below w.heap.size w jh:=pF.grown NK pF.size (fun k e=>by cases e;exact af _);clear aeP;have akV:=akV.grown NK F9.isMap;have alf:=alf.grown NK F9.isMap;have ak4:=ak4.grown NK F9.isMap;have alk:=alk.grown NK F9.isMap;go_wp2_with fail
 refine(su jh p 85).mono ?_;rintro e w'' ⟨rfl,rfl⟩;obtain⟨u11,SE⟩:∃u,((jh.alloc (.cells #[.pointer (some ⟨p,0,none⟩)] 111)).alloc (.cells #[.func (.func 85) #[.pointer (some ⟨p,0,none⟩)] #[]] 160))=u:=⟨_,rfl⟩
 have alz:alb u11 160 p 85 jh.heap.size (jh.heap.size+1):=SE ▸ alb.new jh 160 p 85;have Ad:Below jh.heap.size jh u11:=SE ▸ ((ant _ _).alloc (af _) _).alloc (by simp) _;have BO:=BO.below Ad;have pq:=pq.trans (Ad.mono pq.size);have akV:=akV.below Ad;have alf:=alf.below Ad;have ak4:=ak4.below Ad;have alk:=alk.below Ad;rw[SE];clear SE Ad;obtain⟨w12,aek,II,IP⟩:=BO.put Tryz.underlying117 Tryz.underlying9 nO (.func (.func 129) #[] #[.pointer (some ⟨jh.heap.size,0,none⟩),.pointer (some ⟨jh.heap.size+1,0,none⟩)]) (by first|rfl|simp);have hq12:(Instr.mapUpdate 117 (.map (some w.heap.size)) (.string ⟨#[104,105,110,116]⟩) (.func (.func 129) #[] #[.pointer (some ⟨jh.heap.size,0,none⟩),.pointer (some ⟨jh.heap.size+1,0,none⟩)])).run Tryz.prog u11= .ok () w12:=aek;have ad2:Below w.heap.size w w12:=pq.grown IP pq.size (fun k e=>by cases e;exact af _);clear aek;have akV:=akV.grown IP BO.isMap;have alf:=alf.grown IP BO.isMap;have ak4:=ak4.grown IP BO.isMap;have alk:=alk.grown IP BO.isMap;have alz:=alz.grown IP BO.isMap;obtain⟨oV,adA,Jm,Iz⟩:=II.put Tryz.underlying117 Tryz.underlying9 uF (.func (.func 86) #[.pointer (some ⟨p,0,none⟩)] #[]) (by first|rfl|simp);have ajO:(Instr.mapUpdate 117 (.map (some w.heap.size)) (.string ⟨#[99,104,97,114]⟩) (.func (.func 86) #[.pointer (some ⟨p,0,none⟩)] #[])).run Tryz.prog w12= .ok () oV:=adA;have yl:Below w.heap.size w oV:=ad2.grown Iz ad2.size (fun k e=>by cases e;exact af _);clear adA;have akV:=akV.grown Iz II.isMap;have alf:=alf.grown Iz II.isMap;have ak4:=ak4.grown Iz II.isMap;have alk:=alk.grown Iz II.isMap;have alz:=alz.grown Iz II.isMap;obtain⟨l7,ac4,yZ,IJ⟩:=Jm.put Tryz.underlying117 Tryz.underlying9 gX (.func (.func 87) #[.pointer (some ⟨p,0,none⟩)] #[]) (by first|rfl|simp);have akI:(Instr.mapUpdate 117 (.map (some w.heap.size)) (.string ⟨#[108,111,111,107,117,112]⟩) (.func (.func 87) #[.pointer (some ⟨p,0,none⟩)] #[])).run Tryz.prog oV= .ok () l7:=ac4;have BR:Below w.heap.size w l7:=yl.grown IJ yl.size (fun k e=>by cases e;exact af _);clear ac4;have akV:=akV.grown IJ Jm.isMap;have alf:=alf.grown IJ Jm.isMap;have ak4:=ak4.grown IJ Jm.isMap;have alk:=alk.grown IJ Jm.isMap;have alz:=alz.grown IJ Jm.isMap;go_wp2_with fail
 refine(Qc l7 p 89).mono ?_;rintro e w'' ⟨rfl,rfl⟩;obtain⟨u14,U8⟩:∃u,((l7.alloc (.cells #[.pointer (some ⟨p,0,none⟩)] 111)).alloc (.cells #[.func (.func 89) #[.pointer (some ⟨p,0,none⟩)] #[]] 162))=u:=⟨_,rfl⟩
 have alU:alb u14 162 p 89 l7.heap.size (l7.heap.size+1):=U8 ▸ alb.new l7 162 p 89;have xJ:Below l7.heap.size l7 u14:=U8 ▸ ((ant _ _).alloc (af _) _).alloc (by simp) _;have yZ:=yZ.below xJ;have BR:=BR.trans (xJ.mono BR.size);have akV:=akV.below xJ;have alf:=alf.below xJ;have ak4:=ak4.below xJ;have alk:=alk.below xJ;have alz:=alz.below xJ;rw[U8];clear U8 xJ;obtain⟨Ci,aeE,Fv,nV⟩:=yZ.put Tryz.underlying117 Tryz.underlying9 dL (.func (.func 133) #[] #[.pointer (some ⟨l7.heap.size,0,none⟩),.pointer (some ⟨l7.heap.size+1,0,none⟩)]) (by first|rfl|simp);have akA:(Instr.mapUpdate 117 (.map (some w.heap.size)) (.string ⟨#[114,117,108,101]⟩) (.func (.func 133) #[] #[.pointer (some ⟨l7.heap.size,0,none⟩),.pointer (some ⟨l7.heap.size+1,0,none⟩)])).run Tryz.prog u14= .ok () Ci:=aeE;have IM:Below w.heap.size w Ci:=BR.grown nV BR.size (fun k e=>by cases e;exact af _);clear aeE;have akV:=akV.grown nV yZ.isMap;have alf:=alf.grown nV yZ.isMap;have ak4:=ak4.grown nV yZ.isMap;have alk:=alk.grown nV yZ.isMap;have alz:=alz.grown nV yZ.isMap;have alU:=alU.grown nV yZ.isMap;obtain⟨w16,adZ,agi,Fj⟩:=Fv.put Tryz.underlying117 Tryz.underlying9 jC (.func (.func 90) #[.pointer (some ⟨p,0,none⟩)] #[]) (by first|rfl|simp);have ajg:(Instr.mapUpdate 117 (.map (some w.heap.size)) (.string ⟨#[102,101,97,116,117,114,101]⟩) (.func (.func 90) #[.pointer (some ⟨p,0,none⟩)] #[])).run Tryz.prog Ci= .ok () w16:=adZ;have hb16:Below w.heap.size w w16:=IM.grown Fj IM.size (fun k e=>by cases e;exact af _);clear adZ;have akV:=akV.grown Fj Fv.isMap;have alf:=alf.grown Fj Fv.isMap;have ak4:=ak4.grown Fj Fv.isMap;have alk:=alk.grown Fj Fv.isMap;have alz:=alz.grown Fj Fv.isMap;have alU:=alU.grown Fj Fv.isMap;go_wp2_with fail
 go_ret
 refine⟨_,_,_,_,_,_,_,_,_,_,_,_,_,_,rfl,af _,⟨agi,rfl,rfl,rfl,rfl,rfl,rfl,rfl,rfl,akV,rfl,alf,rfl,ak4,rfl,alk,rfl,alz,rfl,rfl,rfl,alU,rfl,?_⟩,hb16⟩;intro t nUnit nAxis nRegion nCvt nFunc nClass nGlyph nContour nPart nAnchor nDelta nHint nChar nLookup nRule nFeature;simp only[if_neg nUnit,if_neg nAxis,if_neg nRegion,if_neg nCvt,if_neg nFunc,if_neg nClass,if_neg nGlyph,if_neg nContour,if_neg nPart,if_neg nAnchor,if_neg nDelta,if_neg nHint,if_neg nChar,if_neg nLookup,if_neg nRule,if_neg nFeature]
end
section
open Go.RowKit Go.Shelf Go.Sort
def Dx:Fnt:=⟨1000,[⟨[46,110,111,116,100,101,102],500,false,[],[],[],[],[],[]⟩],[],[⟨1,false,[⟨[],[[0]],[],[0],[],0⟩]⟩],[],[],[],[],[]⟩
def LH:Fnt:=⟨16,[],[],[],[],[],[],[[⟨1,5⟩,⟨2,0⟩]],[]⟩
theorem ae3:ah 1000=[49,48,48,48]:=by simp[ah,Lib.itoa,Lib.decDigits]
theorem afK:ah 500=[53,48,48]:=by simp[ah,Lib.itoa,Lib.decDigits]
theorem ahU:ah 16=[49,54]:=by simp[ah,Lib.itoa,Lib.decDigits]
theorem it5:ah 5=[53]:=by simp[ah,Lib.itoa,Lib.decDigits]
theorem QH:lJ Dx=[117,110,105,116,32,49,48,48,48,10,103,108,121,112,104,32,46,110,111,116,100,101,102,32,53,48,48,10,108,111,111,107,117,112,32,115,105,110,103,108,101,10,114,117,108,101,32,47,32,46,110,111,116,100,101,102,32,47,32,62,32,46,110,111,116,100,101,102,10]:=by simp[lJ,Dx,ay,fC,dQ,eX,dN,nP,zQ,di,setW,cO,outW,ae3,afK];decide
theorem Rf:lJ LH=[117,110,105,116,32,49,54,10,102,117,110,99,32,112,117,115,104,58,53,32,112,111,112,10]:=by simp[lJ,LH,ay,fC,gJ,dC,ahU,it5];decide
def yS (w:World)(l:List Obj):World:=l.foldl World.alloc w
theorem CV (l:List Obj):∀w:World,Below w.heap.size w (yS w l):=by
 induction l with
 |nil=>intro w;exact ant _ _
 |cons o l ih=>intro w;exact((ant _ _).alloc (af _) o).trans ((ih (w.alloc o)).mono (by simp))
theorem jd (w:World)(l:List Obj)(k:Nat):(yS w l).heap[w.heap.size+k]? =l[k]? :=by
 induction l generalizing w k with
 |nil=>simp[yS]
 |cons o l ih=>
  show(yS (w.alloc o) l).heap[w.heap.size+k]? =_;cases k with
  |zero=>rw[(CV l (w.alloc o)).block _ (by simp)];exact heap_alloc_new w o
  |succ k=>have:=ih (w.alloc o) k;rw[World.size_alloc] at this;rw[show w.heap.size+(k+1)=w.heap.size+1+k by omega,this];rfl
theorem Sl.lit {α:Type}{R:Rel α}{w:World}{b:Nat}{t:TypeId}{cells:Array Value}{size:Nat}{xs:List α}(hb:Bk w b t cells)(h1:t≠5)(h2:t≠130)(hf:Fl R size w (FT w) cells.toList xs):Sl R size w (FT w) (some ⟨b,0,none⟩) xs:=⟨cells.toList,hf,fun _=>⟨b,0,rfl,GL hb h1 h2,fun j u hu=>by rw[aoc,hb.cell];simpa using hu⟩⟩
theorem Vx:I64 0:=I64.small (by decide) (by decide)
theorem UJ (w:World)(hT:Tabs w)(hG:nG<=w.heap.size):Calls Tryz.prog 18 #[] w fun e w'=>e= .returned (.bool true)/\Below w.heap.size w w':=by
 go_enter Tryz.func18,Tryz.ntmps18
 go_wp2_with fail
 change Calls _ _ _ (yS w [.cells #[.string ⟨#[46,110,111,116,100,101,102]⟩,.int .i64 500,.bool false,.slice none 0 0,.slice none 0 0,.slice none 0 0,.slice none 0 0,.slice none 0 0,.slice none 0 0] 59,.cells #[.int .i64 0] 3,.cells #[.slice (some ⟨w.heap.size+1,0,none⟩) 1 1] 22,.cells #[.int .i64 0] 3,.cells #[.slice none 0 0,.slice (some ⟨w.heap.size+2,0,none⟩) 1 1,.slice none 0 0,.slice (some ⟨w.heap.size+3,0,none⟩) 1 1,.slice none 0 0,.int .i64 0] 76,.cells #[.int .i64 1,.bool false,.slice (some ⟨w.heap.size+4,0,none⟩) 1 1] 72,.cells #[.int .i64 1000,.slice (some ⟨w.heap.size,0,none⟩) 1 1,.slice none 0 0,.slice (some ⟨w.heap.size+5,0,none⟩) 1 1,.slice none 0 0,.slice none 0 0,.slice none 0 0,.slice none 0 0,.slice none 0 0] 32,.cells #[.int .i64 1,.int .i64 5,.int .i64 2,.int .i64 0] 61,.cells #[.slice (some ⟨w.heap.size+7,0,none⟩) 2 2] 57,.cells #[.int .i64 16,.slice none 0 0,.slice none 0 0,.slice none 0 0,.slice none 0 0,.slice none 0 0,.slice none 0 0,.slice (some ⟨w.heap.size+8,0,none⟩) 1 1,.slice none 0 0] 32]) _;obtain⟨W,hW⟩:∃W,yS w [.cells #[.string ⟨#[46,110,111,116,100,101,102]⟩,.int .i64 500,.bool false,.slice none 0 0,.slice none 0 0,.slice none 0 0,.slice none 0 0,.slice none 0 0,.slice none 0 0] 59,.cells #[.int .i64 0] 3,.cells #[.slice (some ⟨w.heap.size+1,0,none⟩) 1 1] 22,.cells #[.int .i64 0] 3,.cells #[.slice none 0 0,.slice (some ⟨w.heap.size+2,0,none⟩) 1 1,.slice none 0 0,.slice (some ⟨w.heap.size+3,0,none⟩) 1 1,.slice none 0 0,.int .i64 0] 76,.cells #[.int .i64 1,.bool false,.slice (some ⟨w.heap.size+4,0,none⟩) 1 1] 72,.cells #[.int .i64 1000,.slice (some ⟨w.heap.size,0,none⟩) 1 1,.slice none 0 0,.slice (some ⟨w.heap.size+5,0,none⟩) 1 1,.slice none 0 0,.slice none 0 0,.slice none 0 0,.slice none 0 0,.slice none 0 0] 32,.cells #[.int .i64 1,.int .i64 5,.int .i64 2,.int .i64 0] 61,.cells #[.slice (some ⟨w.heap.size+7,0,none⟩) 2 2] 57,.cells #[.int .i64 16,.slice none 0 0,.slice none 0 0,.slice none 0 0,.slice none 0 0,.slice none 0 0,.slice none 0 0,.slice (some ⟨w.heap.size+8,0,none⟩) 1 1,.slice none 0 0] 32]=W:=⟨_,rfl⟩
 rw[hW];have hbW:Below w.heap.size w W:=by rw[<-hW];exact CV _ _
 have K0:Bk W (w.heap.size+0) 59 #[.string ⟨#[46,110,111,116,100,101,102]⟩,.int .i64 500,.bool false,.slice none 0 0,.slice none 0 0,.slice none 0 0,.slice none 0 0,.slice none 0 0,.slice none 0 0]:=by rw[<-hW];exact jd w _ 0
 have K1:Bk W (w.heap.size+1) 3 #[.int .i64 0]:=by rw[<-hW];exact jd w _ 1
 have K2:Bk W (w.heap.size+2) 22 #[.slice (some ⟨w.heap.size+1,0,none⟩) 1 1]:=by rw[<-hW];exact jd w _ 2
 have K3:Bk W (w.heap.size+3) 3 #[.int .i64 0]:=by rw[<-hW];exact jd w _ 3
 have K4:Bk W (w.heap.size+4) 76 #[.slice none 0 0,.slice (some ⟨w.heap.size+2,0,none⟩) 1 1,.slice none 0 0,.slice (some ⟨w.heap.size+3,0,none⟩) 1 1,.slice none 0 0,.int .i64 0]:=by rw[<-hW];exact jd w _ 4
 have K5:Bk W (w.heap.size+5) 72 #[.int .i64 1,.bool false,.slice (some ⟨w.heap.size+4,0,none⟩) 1 1]:=by rw[<-hW];exact jd w _ 5
 have K6:Bk W (w.heap.size+6) 32 #[.int .i64 1000,.slice (some ⟨w.heap.size,0,none⟩) 1 1,.slice none 0 0,.slice (some ⟨w.heap.size+5,0,none⟩) 1 1,.slice none 0 0,.slice none 0 0,.slice none 0 0,.slice none 0 0,.slice none 0 0]:=by rw[<-hW];exact jd w _ 6
 have K7:Bk W (w.heap.size+7) 61 #[.int .i64 1,.int .i64 5,.int .i64 2,.int .i64 0]:=by rw[<-hW];exact jd w _ 7
 have K8:Bk W (w.heap.size+8) 57 #[.slice (some ⟨w.heap.size+7,0,none⟩) 2 2]:=by rw[<-hW];exact jd w _ 8
 have K9:Bk W (w.heap.size+9) 32 #[.int .i64 16,.slice none 0 0,.slice none 0 0,.slice none 0 0,.slice none 0 0,.slice none 0 0,.slice none 0 0,.slice (some ⟨w.heap.size+8,0,none⟩) 1 1,.slice none 0 0]:=by rw[<-hW];exact jd w _ 9
 have K0':Bk W w.heap.size 59 #[.string ⟨#[46,110,111,116,100,101,102]⟩,.int .i64 500,.bool false,.slice none 0 0,.slice none 0 0,.slice none 0 0,.slice none 0 0,.slice none 0 0,.slice none 0 0]:=K0;clear hW;have z0:=hbW.size;have hTW:=hT.all hbW;have hGW:nG<=W.heap.size:=nt hG z0;have S1:Sl akQ 9 W (FT W) (some ⟨w.heap.size,0,none⟩) Dx.akJ:=Sl.lit K0' (by decide) (by decide) (Fl.one ⟨none,0,none,0,none,0,none,0,none,0,none,0,rfl,I64.small (by decide) (by decide),Sl.nil,Sl.nil,Sl.nil,Sl.nil,Sl.nil,Sl.nil⟩ rfl);have Si1:Sl akL 1 W (FT W) (some ⟨w.heap.size+1,0,none⟩) [0]:=Sl.lit K1 (by decide) (by decide) (Fl.one ⟨rfl,Vx⟩ rfl);have Si2:Sl akM 1 W (FT W) (some ⟨w.heap.size+2,0,none⟩) [[0]]:=Sl.lit K2 (by decide) (by decide) (Fl.one ⟨_,_,rfl,Si1⟩ rfl);have Si3:Sl akL 1 W (FT W) (some ⟨w.heap.size+3,0,none⟩) [0]:=Sl.lit K3 (by decide) (by decide) (Fl.one ⟨rfl,Vx⟩ rfl);have Si4:Sl ak3 6 W (FT W) (some ⟨w.heap.size+4,0,none⟩) [⟨[],[[0]],[],[0],[],0⟩]:=Sl.lit K4 (by decide) (by decide) (Fl.one ⟨none,0,_,_,none,0,_,_,none,0,rfl,Vx,Sl.nil,Si2,Sl.nil,Si3,Sl.nil⟩ rfl);have S3:Sl akS 3 W (FT W) (some ⟨w.heap.size+5,0,none⟩) Dx.akK:=Sl.lit K5 (by decide) (by decide) (Fl.one ⟨_,_,rfl,I64.small (by decide) (by decide),Si4⟩ rfl);have aer:∀g∈Dx.akJ,g.points.length<=1000000000/\g.ends.length<=1000000000:=by decide
 have hf1:=Jz W Dx (some ⟨w.heap.size,0,none⟩) none (some ⟨w.heap.size+5,0,none⟩) none none none none none 1 0 1 0 0 0 0 0 hTW hGW (I64.small (by decide) (by decide)) S1 Sl.nil S3 Sl.nil Sl.nil Sl.nil Sl.nil Sl.nil aer (by rw[QH];decide);rw[QH] at hf1;refine(show Calls _ _ _ _ _ from hf1).mono ?_;rintro e w1 ⟨rfl,hb1⟩;have Ji:=bt hbW hb1;have hT1:=hT.all Ji;have J7:=K7.below hb1;have J8:=K8.below hb1;have J9:=K9.below hb1;have z1:=hb1.size;have Sj7:Sl akZ 2 w1 (FT w1) (some ⟨w.heap.size+7,0,none⟩) [⟨1,5⟩,⟨2,0⟩]:=Sl.lit J7 (by decide) (by decide) ((Fl.one (R:=akZ) ⟨rfl,I64.small (by decide) (by decide),I64.small (by decide) (by decide)⟩ rfl).append (Fl.one ⟨rfl,I64.small (by decide) (by decide),Vx⟩ rfl));have Sj8:Sl ak6 1 w1 (FT w1) (some ⟨w.heap.size+8,0,none⟩) LH.funcs:=Sl.lit J8 (by decide) (by decide) (Fl.one ⟨_,_,rfl,Sj7⟩ rfl);have hf2:=Jz w1 LH none none none none none none (some ⟨w.heap.size+8,0,none⟩) none 0 0 0 0 0 0 1 0 hT1 (nt hGW z1) (I64.small (by decide) (by decide)) Sl.nil Sl.nil Sl.nil Sl.nil Sl.nil Sl.nil Sj8 Sl.nil (by decide) (by rw[Rf];decide);rw[Rf] at hf2;have Hf2:=hd0 hf2;have j0:w1.cell? ⟨w.heap.size+9,0,none⟩=some (.int .i64 16):=J9.cell 0;have j1:w1.cell? ⟨w.heap.size+9,1,none⟩=some (.slice none 0 0):=J9.cell 1;have j2:w1.cell? ⟨w.heap.size+9,2,none⟩=some (.slice none 0 0):=J9.cell 2;have j3:w1.cell? ⟨w.heap.size+9,3,none⟩=some (.slice none 0 0):=J9.cell 3;have j4:w1.cell? ⟨w.heap.size+9,4,none⟩=some (.slice none 0 0):=J9.cell 4;have j5:w1.cell? ⟨w.heap.size+9,5,none⟩=some (.slice none 0 0):=J9.cell 5;have j6:w1.cell? ⟨w.heap.size+9,6,none⟩=some (.slice none 0 0):=J9.cell 6;have j7:w1.cell? ⟨w.heap.size+9,7,none⟩=some (.slice (some ⟨w.heap.size+8,0,none⟩) 1 1):=J9.cell 7;have j8:w1.cell? ⟨w.heap.size+9,8,none⟩=some (.slice none 0 0):=J9.cell 8;have aaZ:lH 39=[115,105,122,101]:=by decide
 have hop0:lH 0=[63]:=by decide
 have aaX:lH 40=[63]:=by decide
 clear hf2 hf1 S1 Si1 Si2 Si3 Si4 S3 aer Sj7 Sj8 J7 J8 J9 K0 K0' K1 K2 K3 K4 K5 K6 K7 K8 K9;have afW:Hid (∀w,Tabs w->Calls Tryz.prog 37 #[.int .i64 39] w fun e w'=>e= .returned (.string ⟨#[115,105,122,101]⟩)/\w=w'):=fun w h=>by have:=LC w 39 h;rw[aaZ] at this;exact this
 have af1:Hid (∀w,Tabs w->Calls Tryz.prog 37 #[.int .i64 0] w fun e w'=>e= .returned (.string ⟨#[63]⟩)/\w=w'):=fun w h=>by have:=LC w 0 h;rw[hop0] at this;exact this
 have afb:Hid (∀w,Tabs w->Calls Tryz.prog 37 #[.int .i64 40] w fun e w'=>e= .returned (.string ⟨#[63]⟩)/\w=w'):=fun w h=>by have:=LC w 40 h;rw[aaX] at this;exact this
 clear aaZ hop0 aaX;go_wp2_with fail
 refine(show Calls _ _ _ _ _ from Hf2.out).mono ?_;rintro e w2 ⟨rfl,hb2⟩;have hbw2:=bt Ji hb2;have hT2:=hT.all hbw2;have adY:True:=trivial;have tk0:True:=trivial;have adz:True:=trivial;go_wp2_with (first
  |(go_at_call 37;have _t:=adY;refine(afW.out _ hT2).mono ?_;rintro e w' ⟨rfl,rfl⟩;clear _t adY)
  |(go_at_call 37;have _t:=tk0;refine(af1.out _ hT2).mono ?_;rintro e w' ⟨rfl,rfl⟩;clear _t tk0)
  |(go_at_call 37;have _t:=adz;refine(afb.out _ hT2).mono ?_;rintro e w' ⟨rfl,rfl⟩;clear _t adz))
 go_ret
 exact⟨rfl,hbw2⟩
end
section
open Go.RowKit
attribute [-go_sem] Builtin.append_
theorem WL (w:World)(C rb p:Nat)(err:Int)(v0 v1 v2:Value)(A:Option Addr)(n c:Nat)(ws:List P3)(hC:Bk w C mF #[v0,v1,v2,.slice none 0 0,.slice none 0 0,.int .i64 0])(hR:Rdr w rb p err)
  (hw:RdT w dZ A n 3 (dD ws)) (hl:∀x∈ws,x.2.2.length<=100000000) (hn:n<=1000000000):
  Calls Tryz.prog 138 #[.pointer (some ⟨rb,0,none⟩),.int .i64 4,.slice A n c,.pointer (some ⟨C,0,none⟩)] w fun e w'=>e= .returned (.tuple #[])/\alT w C rb p v0 v1 v2 ((ag ws).foldl mg err) [] ((ag ws).map kZ) 0 w':=by
 have hrc:rb≠C:=fun e=>by
  subst e;have:=(bU hR hC).1
  revert this
  decide
 have hlk:((ag ws).map kZ).length=n:=by rw[anB,iC];exact hw.rd.alH
 have hcall:=hd0 (aac w rb p err A n c ws hR hw hl hn);have HC:=hd0 hC;have hzc:C<w.heap.size:=hC.lt;generalize (ag ws).foldl mg err=AU at*
 generalize (ag ws).map kZ=cl at*
 have Hlk:=hd0 hlk;clear hC hR hw hl hlk;go_enter Tryz.func138,Tryz.ntmps138
 go_wp2_with fail
 refine hcall.out.mono ?_;rintro e w1 ⟨v,rfl,A5,c5,rfl,xN,nY,hg5⟩;have b1:Bk w1 C mF _:=Bk.kept2 hg5 HC.out (fun e=>hrc e.symm);have k1:w1.cell? ⟨C,4,none⟩=some (.slice none 0 0):=b1.cell 4;have y1:=b1.frozen 4;have zc:=b1.lt;have HO:Hid (alT w C rb p v0 v1 v2 AU [] cl 0 (w1.setCell ⟨C,4,none⟩ (.slice A5 n c5))):=by
  refine⟨⟨none,0,A5,c5,?_,World.ownsRow_nil _ _ _ _,?_⟩,Bk.far nY (by simpa using hrc) _,((Two.refl w rb C).grown hg5 (fun g e=>by cases e;exact .inr (.inl rfl))).grown (dE w1 ⟨C,4,none⟩ _) (fun g e=>by cases e;exact .inr (.inr rfl))⟩
  ·have:=b1.set 4 (.slice A5 n c5);rw[Hlk.out];exact this
  have:=qU xN b1 (by decide) 4 (.slice A5 n c5);rw[Hlk.out];exact this
 clear xN nY hg5 b1;go_wp2
 go_end0
 exact⟨rfl,HO.out⟩
theorem Zu (w:World)(C rb p:Nat)(err:Int)(v0 v1 v2:Value)(A:Option Addr)(n c:Nat)(ws:List P3)(hC:Bk w C mF #[v0,v1,v2,.slice none 0 0,.slice none 0 0,.int .i64 0])(hR:Rdr w rb p err)
  (hw:RdT w dZ A n 3 (dD ws)) (hl:∀x∈ws,x.2.2.length<=100000000) {t:B} (ht:ag ws=[t]):
  Calls Tryz.prog 138 #[.pointer (some ⟨rb,0,none⟩),.int .i64 6,.slice A n c,.pointer (some ⟨C,0,none⟩)] w fun e w'=>e= .returned (.tuple #[])/\alT w C rb p v0 v1 v2 (aK err t) [] [] (aI t) w':=by
 have hrc:rb≠C:=fun e=>by
  subst e;have:=(bU hR hC).1
  revert this
  decide
 obtain rfl:n=1:=by have:=iC ws;rw[ht] at this;have h2:=hw.rd.alH;simp only[aT,ln] at this;omega
 obtain⟨b,o,x,y,z,rfl,hbl,hpz,q1,q2,q3⟩:=hw.rd.at3 (k:=0) (by omega);have hz:z=t:=by have:=congrArg (fun l=>l[0]?) ht;simp only[ag,anX,hpz.out,Option.map_some] at this;simpa using this
 subst hz;have hzl:z.length<=100000000:=hl _ (anC hpz.out);have hcall:=hd0 (dP w rb p err z hR hzl);have HC:=hd0 hC;have hzc:C<w.heap.size:=hC.lt;have q3':w.cell? ⟨b,o+2,none⟩=some (.string ⟨z.toArray⟩):=by simpa using q3
 clear hC hR hw hl ht hpz q1 q2 hzl;go_enter Tryz.func138,Tryz.ntmps138
 go_wp2_with fail
 refine hcall.out.mono ?_;rintro e w1 ⟨rfl,nY,hg5⟩;have b1:Bk w1 C mF _:=Bk.kept2 hg5 HC.out (fun e=>hrc e.symm);have k1:w1.cell? ⟨C,5,none⟩=some (.int .i64 0):=b1.cell 5;have y1:=b1.frozen 5;have zc:=b1.lt;have HO:Hid (alT w C rb p v0 v1 v2 (aK err z) [] [] (aI z) (w1.setCell ⟨C,5,none⟩ (.int .i64 (aI z)))):=⟨⟨none,0,none,0,b1.set 5 _,World.ownsRow_nil _ _ _ _,World.ownsRow_nil _ _ _ _⟩,Bk.far nY (by simpa using hrc) _,((Two.refl w rb C).grown hg5 (fun g e=>by cases e;exact .inr (.inl rfl))).grown (dE w1 ⟨C,5,none⟩ _) (fun g e=>by cases e;exact .inr (.inr rfl))⟩
 clear nY hg5 b1;go_wp2
 go_end0
 exact⟨rfl,HO.out⟩
theorem Y9 (w:World)(C rb p:Nat)(kind err:Int)(v0 v1 v2:Value)(A:Option Addr)(n c:Nat)(hC:Bk w C mF #[v0,v1,v2,.slice none 0 0,.slice none 0 0,.int .i64 0])(hR:Rdr w rb p err)(hk:kind≠1/\kind≠2/\kind≠3/\kind≠5/\kind≠4/\kind≠6):
  Calls Tryz.prog 138 #[.pointer (some ⟨rb,0,none⟩),.int .i64 kind,.slice A n c,.pointer (some ⟨C,0,none⟩)] w fun e w'=>e= .returned (.tuple #[])/\alT w C rb p v0 v1 v2 err [] [] 0 w':=by
 obtain⟨h1,h2,h3,h5,h4,h6⟩:=hk;have e1:(kind==1)=false:=by simpa using h1
 have e2:(kind==2)=false:=by simpa using h2
 have e3:(kind==3)=false:=by simpa using h3
 have e4:(kind==4)=false:=by simpa using h4
 have e5:(kind==5)=false:=by simpa using h5
 have e6:(kind==6)=false:=by simpa using h6
 have HO:Hid (alT w C rb p v0 v1 v2 err [] [] 0 w):=⟨⟨none,0,none,0,hC,World.ownsRow_nil _ _ _ _,World.ownsRow_nil _ _ _ _⟩,hR,Two.refl _ _ _⟩
 clear hC hR h1 h2 h3 h4 h5 h6;go_enter Tryz.func138,Tryz.ntmps138
 go_wp2
 go_end0
 exact⟨rfl,HO.out⟩
end
section
open Go.RowKit
attribute [-go_sem] Builtin.append_
def wW (l:List Int):Int->Option Value:=fun x=>if x∈l then some (.int .i64 (l.idxOf x:Nat)) else none
theorem ab7:wW []=fun _=>none:=by funext x;simp[wW]
theorem aah (l:List Int)(y:Int)(h:y ∉ l):wW (l++[y])=fun x=>if x=y then some (.int .i64 (l.length:Nat)) else wW l x:=by
 funext x
 unfold wW;by_cases hxy:x=y
 ·subst hxy;rw[if_pos (by simp),if_pos rfl,List.idxOf_append,if_neg h];simp
 rw[if_neg hxy];by_cases hx:x∈l
 ·rw[if_pos (by simp[hx]),if_pos hx,List.idxOf_append,if_pos hx]
 rw[if_neg (by simp[hx,hxy]),if_neg hx]
theorem abN:(Tryz.prog.info? 3).map (fun i=>(i.zero,i.size,i.bytes))=some (some (.int .i64 0),1,8):=by kernel_rfl
theorem Gs {l:List Int}{k:Nat}{x:Int}(h:l[k]? =some x):l.take (k+1)=l.take k++[x]:=by rw[aob,h];rfl
theorem LM (w:World):(zeroValue 3).run Tryz.prog w= .ok (.int .i64 0) w:=by kernel_rfl
theorem ac0 (n:Int)(w:World):(Instr.makeMap 245 (some (.int .i64 n))).run Tryz.prog w= .ok (.map (some w.heap.size)) (w.alloc (.map #[] 0)):=by simp[Instr.makeMap,run_underlying Tryz.underlying245,asInt,Result.andThen,newObj,go_sem];rfl
def alY (w:World)(r:Except Int (List Int))(e:Ending)(w':World):Prop:=
 Below w.heap.size w w'/\match r with
  | .error c=>e= .returned (.tuple #[.slice none 0 0,.int .i64 c])
  | .ok o=>∃A' c',e= .returned (.tuple #[.slice A' o.length c',.int .i64 0])/\w'.ownsRow w.heap.size 3 1 (.slice A' o.length c') o.length (aH o)
def Cm (l nm:List Int)(g:Int):Int:=nm.getD (l.idxOf g) 0
theorem TZ {w:World}{base M n c:Nat}{A:Option Addr}{xs:List Value}{f:Int->Option Value}(h:akW JA w M f)(ho:w.ownsRow base 3 1 (.slice A n c) n xs):some M≠(Value.slice A n c).ownBlock:=fun e=>by
 obtain⟨cur,hb⟩:=bg ho e.symm;exact h.alS hb
theorem Vy (w:World)(A1 A2 A3:Option Addr)(n1 n2 n3 c1 c2 c3:Nat)(l st nm:List Int)(hst:st=setOf l)(h1:Rd w w.heap.size A1 n1 1 (aH l))(h2:Rd w w.heap.size A2 n2 1 (aH st))(h3:Rd w w.heap.size A3 n3 1 (aH nm))(k1:n1<=1000000000)(k2:n2<=1000000000)(k3:n3<=1000000000):
  Calls Tryz.prog 139 #[.slice A1 n1 c1,.slice A2 n2 c2,.slice A3 n3 c3] w (alY w (fE l nm)):=by
 have l1:=hd0 h1.amr;have l2:=hd0 h2.amr;have l3:=hd0 h3.amr;have R1:=hd0 h1;have R2:=hd0 h2;have R3:=hd0 h3;have HST:=hd0 hst;obtain⟨i0,hi,hz0,hz1,hz2⟩:=info_parts abN;have hmk:=ac0 n1;clear h1 h2 h3 hst;go_enter Tryz.func139,Tryz.ntmps139
 go_wp2_with fail
 go_loopw [21] (fun i wr=>∃k:Nat,k<=n1/\i= .int .i64 k/\akW JA wr w.heap.size (wW (l.take k))/\(l.take k).Nodup/\Below w.heap.size w wr) (fun i _=>n1 - (intOf i).toNat)
 case atStart=>exact⟨0,nz _,rfl,by rw[List.take_zero,ab7];exact akW.new JA w,by simp,(ant _ _).alloc (af _) _⟩
 case round=>
  obtain⟨k,hk,rfl,hm,hnd,hb⟩:=hrel;have zm:=hm.lt;by_cases hlt:k<n1
  ·obtain⟨b,o,x,rfl,hbb,hx,q1⟩:=R1.out.atI hlt;have q2:wr.cell? ⟨b,o+k,none⟩=some (.int .i64 x):=((aj hb).1 _ _ hbb).trans q1;have hlk:=hm.al4 Tryz.underlying245 Tryz.underlying3 (LM wr) x;have hlk2:(Instr.lookup 245 (.map (some w.heap.size)) (.int .i64 x) true).run Tryz.prog wr= .ok (.tuple #[(wW (l.take k) x).getD (.int .i64 0),.bool (wW (l.take k) x).isSome]) wr:=hlk;have hsn:=Gs hx.out;by_cases hin:x∈l.take k
   ·have hp:wW (l.take k) x=some (.int .i64 ((l.take k).idxOf x:Nat)):=if_pos hin;rw[hp] at hlk2;simp only[Option.getD_some,Option.isSome_some] at hlk2;have HR:Hid (fE l nm= .error 24):=by show _=_;unfold fE;rw[if_pos];intro hnd2;have:(l.take (k+1)).Nodup:=hnd2.sublist (List.take_sublist _ _);rw[hsn,List.nodup_append] at this;exact this.2.2 x hin x (by simp) rfl
    have HB:=hd0 hb;clear hm hnd hb hlk hsn hin hp hx q1;go_wp2_with fail
    go_ret2
    refine⟨HB.out,?_⟩;rw[HR.out];rfl
   have hp:wW (l.take k) x=none:=if_neg hin;rw[hp] at hlk2;simp only[Option.getD_none,Option.isSome_none] at hlk2;obtain⟨w2,hput,hm2,hg2⟩:=hm.put Tryz.underlying245 Tryz.underlying3 x (.int .i64 (k:Nat)) hp;have aaY:(Instr.mapUpdate 245 (.map (some w.heap.size)) (.int .i64 x) (.int .i64 (k:Nat))).run Tryz.prog wr= .ok () w2:=hput;have hlen:(l.take k).length=k:=by rw[anQ,l1.out];omega
   have hf:=aah (l.take k) x hin;rw[hlen,<-hsn] at hf;have HM:Hid (akW JA w2 w.heap.size (wW (l.take (k+1)))):=by show akW _ _ _ _;rw[hf];exact hm2
   have HN:Hid ((l.take (k+1)).Nodup):=by show List.Nodup _;rw[hsn,List.nodup_append];exact⟨hnd,by simp,fun a ha c hc e=>by simp only[anu] at hc;subst hc;subst e;exact hin ha⟩
   have HB:Hid (Below w.heap.size w w2):=hb.grown hg2 hb.size (fun g e=>by cases e;exact af _);clear hm hnd hb hlk hsn hin hp hx q1 hput hm2 hg2 hlen hf;go_wp2_with fail
   go_roundw
   case rel=>exact⟨k+1,by omega,by simp,HM.out,HN.out,HB.out⟩
   case measure=>simp[intOf];omega
  obtain rfl:k=n1:=by omega
  rw[anN (by rw[l1.out];exact af _)] at hm hnd;by_cases hne:n3=k
  ·subst hne;have HR:Hid (fE l nm= .ok (st.map (Cm l nm))):=by show _=_;unfold fE;rw[if_neg (by simpa using hnd),if_neg (by rw[l1.out,l3.out];simp),HST.out];rfl
   have HM:=hd0 hm;have HB:=hd0 hb;have hsz:=hb.size;clear hm hnd hb;go_wp2_with (at_make;refine wpList_make_own _ rfl _ _ 22 rfl w.heap.size 3 i0 (.int .i64 0) 1 Tryz.underlying22 hi hz0 hz1 .i64 .i64 _ n2 rfl rfl rfl (by rw[hz2];omega) (by unfold maxLen;omega) (by omega) ?_;intro w0 hown hg0)
   have hm0:akW JA w0 w.heap.size (wW l):=HM.out.grown hg0 (by simp);have hb0:Below w.heap.size w w0:=HB.out.grown hg0 HB.out.size (fun g e=>by cases e);have HM0:=hd0 hm0;have HB0:=hd0 hb0;have HO0:=hd0 hown;clear hm0 hb0 hown hg0 hsz;go_loopw [13,47] (fun v i w'=>∃k:Nat,k<=n2/\i= .int .i64 k/\∃A c,v= .slice A k c/\w'.ownsRow w.heap.size 3 1 (.slice A k c) k (aH ((st.take k).map (Cm l nm)))/\akW JA w' w.heap.size (wW l)/\Below w.heap.size w w') (fun _ i _=>n2 - (intOf i).toNat)
   case atStart=>exact⟨0,nz _,rfl,_,_,rfl,HO0.out,HM0.out,HB0.out⟩
   case round=>
    obtain⟨k,hk,rfl,A4,c4,rfl,ho,hm,hb⟩:=hrel;by_cases hlt:k<n2
    ·obtain⟨b,o,x,rfl,hbb,hx,q1⟩:=R2.out.atI hlt;have q2:wr.cell? ⟨b,o+k,none⟩=some (.int .i64 x):=((aj hb).1 _ _ hbb).trans q1;have hxl:x∈l:=by have:=anC hx.out;rw[HST.out] at this;exact(CB x l).1 this
     have hjl:l.idxOf x<n3:=by rw[<-l1.out];exact List.idxOf_lt_length_iff.2 hxl
     obtain⟨b3,o3,y,rfl,hb3,hy,q3⟩:=R3.out.atI hjl;have q4:wr.cell? ⟨b3,o3+l.idxOf x,none⟩=some (.int .i64 y):=((aj hb).1 _ _ hb3).trans q3;have hlk:=hm.look1 Tryz.underlying245 Tryz.underlying3 (LM wr) x;have hlk2:(Instr.lookup 245 (.map (some w.heap.size)) (.int .i64 x) false).run Tryz.prog wr= .ok ((wW l x).getD (.int .i64 0)) wr:=hlk;have hp:wW l x=some (.int .i64 (l.idxOf x:Nat)):=if_pos hxl;rw[hp] at hlk2;simp only[Option.getD_some] at hlk2;have hzz:=anD hb3 hb.size;have hzy:=anD hbb hb.size;have hsn:Hid (aH ((st.take (k+1)).map (Cm l nm))=aH ((st.take k).map (Cm l nm))++[.int .i64 y]):=by
      show _=_;rw[Gs hx.out,an7,Du];have:Cm l nm x=y:=by unfold Cm;rw[List.getD_eq_getElem?_getD,hy.out];rfl
      rw[anE,aoi,this];rfl
     generalize l.idxOf x=j at*
     generalize aH ((st.take k).map (Cm l nm))=xs at*
     have Hm:=hd0 hm;have Hb:=hd0 hb;have hs9:=hb.size;clear hx q1 hxl hy q3 hlk hp hm hb;go_wp2_with (at_builtin;refine iP iL rfl (.tmp 51) (.tmp 58) rfl wr _ rfl w.heap.size k c4 A4 xs #[.int .i64 y] rfl rfl rfl ho (by simp[Value.oneCell']) (by omega) (by omega) ?_;intro A5 c5 w2 ho2 hg3 _)
     go_roundw
     case rel=>exact⟨k+1,by omega,by simp,A5,c5,rfl,by rw[hsn.out];exact ho2,Hm.out.grown hg3 (TZ Hm.out ho),Hb.out.grown hg3 Hb.out.size (fun g e=>(ho.lt g e).1)⟩
     case measure=>simp[intOf];omega
    obtain rfl:k=n2:=by omega
    rw[anN (by rw[l2.out];exact af _)] at ho;have Hb:=hd0 hb;have Ho:=hd0 ho;clear hm hb ho;go_wp2_with fail
    go_ret2
    refine⟨Hb.out,?_⟩;rw[HR.out];have bi:(st.map (Cm l nm)).length=k:=by rw[anB];exact l2.out
    show ∃A' c',_/\_;rw[bi];exact⟨A4,c4,rfl,Ho.out⟩
  have HR:Hid (fE l nm= .error 22):=by show _=_;unfold fE;rw[if_neg (by simpa using hnd),if_pos (by rw[l1.out,l3.out];exact hne)]
  have e1:((n3:Int)==(k:Int))=false:=by simp;omega
  have e2:((n3:Int) !=(k:Int))=true:=by simp;omega
  have HB:=hd0 hb;clear hm hnd hb hne;go_wp2_with fail
  go_ret2
  refine⟨HB.out,?_⟩;rw[HR.out];rfl
end
end Go.Proofs.YtkijckccfookeaaGreatDoor
