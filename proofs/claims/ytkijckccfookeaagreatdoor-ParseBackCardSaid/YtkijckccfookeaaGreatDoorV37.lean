/- Lemmas. -/
import Derived.Test.YtkijckccfookeaaGreatDoorPbB
set_option linter.unusedVariables false
set_option linter.unusedSimpArgs false
set_option maxRecDepth 100000
set_option maxHeartbeats 32000000
namespace Go.Proofs.YtkijckccfookeaaGreatDoor
open Go.RowKit
section
theorem rW (w:World)(p F:Nat):Calls Tryz.prog 80 #[.pointer (some ⟨p,0,none⟩),.func (.func F) #[.pointer (some ⟨p,0,none⟩)] #[]] w fun e w'=>e= .returned (.func (.func 129) #[] #[.pointer (some ⟨w.heap.size,0,none⟩),.pointer (some ⟨w.heap.size+1,0,none⟩)])/\
  w'=(w.alloc (.cells #[.pointer (some ⟨p,0,none⟩)] 111)).alloc (.cells #[.func (.func F) #[.pointer (some ⟨p,0,none⟩)] #[]] 160):=by
 go_enter Tryz.func80,Tryz.ntmps80
 go_wp2;go_ret
 exact⟨by simp,rfl⟩
theorem Td (w:World)(p F:Nat):Calls Tryz.prog 88 #[.pointer (some ⟨p,0,none⟩),.func (.func F) #[.pointer (some ⟨p,0,none⟩)] #[]] w fun e w'=>e= .returned (.func (.func 133) #[] #[.pointer (some ⟨w.heap.size,0,none⟩),.pointer (some ⟨w.heap.size+1,0,none⟩)])/\
  w'=(w.alloc (.cells #[.pointer (some ⟨p,0,none⟩)] 111)).alloc (.cells #[.func (.func F) #[.pointer (some ⟨p,0,none⟩)] #[]] 162):=by
 go_enter Tryz.func88,Tryz.ntmps88
 go_wp2;go_ret
 exact⟨by simp,rfl⟩
def pV (p F:Nat):Value:= .func (.func F) #[.pointer (some ⟨p,0,none⟩)] #[]
def cV (F a b:Nat):Value:= .func (.func F) #[] #[.pointer (some ⟨a,0,none⟩),.pointer (some ⟨b,0,none⟩)]
structure aoe (w:World)(t:TypeId)(p F a b:Nat):Prop where
 par:Bk w a 111 #[.pointer (some ⟨p,0,none⟩)]
 fn:Bk w b t #[pV p F]
theorem aoe.below {w w':World}{t:TypeId}{p F a b:Nat}(h:aoe w t p F a b)(hb:Below w.heap.size w w'):aoe w' t p F a b:=⟨h.par.keep (hb.block _ h.par.lt),h.fn.keep (hb.block _ h.fn.lt)⟩
theorem aoe.grown {w w':World}{t:TypeId}{p F a b m:Nat}(h:aoe w t p F a b)(hg:w.grownBy w' (some m))(hm:∃es c,w.heap[m]? =some (.map es c)):aoe w' t p F a b:=by
 obtain⟨es,c,hm⟩:=hm;refine⟨h.par.keep (hg.block _ h.par.lt fun e=> ?_),h.fn.keep (hg.block _ h.fn.lt fun e=> ?_)⟩
 ·injection e with e
  subst e;have:=h.par;unfold Bk at this;rw[hm] at this;cases this
 injection e with e
 subst e;have:=h.fn;unfold Bk at this;rw[hm] at this;cases this
theorem aoe.new (w:World)(t:TypeId)(p F:Nat):aoe ((w.alloc (.cells #[.pointer (some ⟨p,0,none⟩)] 111)).alloc (.cells #[pV p F] t)) t p F w.heap.size (w.heap.size+1):=by refine⟨(Bk.new w _ _).alloc _,?_⟩;have:=Bk.new (w.alloc (.cells #[.pointer (some ⟨p,0,none⟩)] 111)) t #[pV p F];simpa using this
theorem ags (w:World):(Instr.makeMap 117 none).run Tryz.prog w= .ok (.map (some w.heap.size)) (w.alloc (.map #[] 0)):=by
 simp[Instr.makeMap,run_underlying Tryz.underlying117,Result.andThen,newObj,go_sem]
 try rfl
structure ao8 (w:World)(p M:Nat)(f:B->Option Value)(jy jv ql qh kF kD nD mV qj qp pY qf:Nat):Prop where
 map:an0 mD w M f
 aqe:f oH=some (pV p 73)
 aqd:f sO=some (pV p 74)
 apL:f kG=some (pV p 75)
 aqf:f pz=some (pV p 76)
 aqb:f rY=some (pV p 77)
 apS:f uN=some (pV p 78)
 ap3:f eQ=some (pV p 79)
 apG:f iW=some (cV 129 jy jv)
 anZ:aoe w 160 p 81 jy jv
 ap9:f pX=some (cV 129 ql qh)
 aoj:aoe w 160 p 82 ql qh
 apO:f kC=some (cV 129 kF kD)
 an9:aoe w 160 p 83 kF kD
 apQ:f nC=some (cV 129 nD mV)
 aoo:aoe w 160 p 84 nD mV
 aqa:f sS=some (cV 129 qj qp)
 aox:aoe w 160 p 85 qj qp
 aqc:f rF=some (pV p 86)
 apM:f lU=some (pV p 87)
 ap8:f mF=some (cV 133 pY qf)
 aoQ:aoe w 162 p 89 pY qf
 apz:f jo=some (pV p 90)
 none:∀t,t≠oH->t≠sO->t≠kG->t≠pz->t≠rY->t≠uN->t≠eQ->t≠iW->t≠pX->t≠kC->t≠nC->t≠sS->t≠rF->t≠lU->t≠mF->t≠jo->f t=none
theorem MR (w:World)(p:Nat):Calls Tryz.prog 40 #[.pointer (some ⟨p,0,none⟩)] w fun e w'=>∃M f jy jv ql qh kF kD nD mV qj qp pY qf,e= .returned (.map (some M))/\w.heap.size<=M/\ao8 w' p M f jy jv ql qh kF kD nD mV qj qp pY qf/\Below w.heap.size w w':=by
 go_enter Tryz.func40,Tryz.ntmps40
 have hmk:=ags w;have hm0:=an0.new mD w;have hb0:Below w.heap.size w (w.alloc (.map #[] 0)):=(aqk _ _).alloc (ag _) _;obtain⟨w1,hp1,hm1,hg1⟩:=hm0.put Tryz.underlying117 Tryz.underlying9 oH (.func (.func 73) #[.pointer (some ⟨p,0,none⟩)] #[]) (by first|rfl|simp);have hq1:(Instr.mapUpdate 117 (.map (some w.heap.size)) (.string ⟨#[117,110,105,116]⟩) (.func (.func 73) #[.pointer (some ⟨p,0,none⟩)] #[])).run Tryz.prog (w.alloc (.map #[] 0))= .ok () w1:=hp1;have hb1:Below w.heap.size w w1:=hb0.grown hg1 hb0.size (fun k e=>by cases e;exact ag _);clear hp1;obtain⟨w2,hp2,hm2,hg2⟩:=hm1.put Tryz.underlying117 Tryz.underlying9 sO (.func (.func 74) #[.pointer (some ⟨p,0,none⟩)] #[]) (by first|rfl|simp);have hq2:(Instr.mapUpdate 117 (.map (some w.heap.size)) (.string ⟨#[97,120,105,115]⟩) (.func (.func 74) #[.pointer (some ⟨p,0,none⟩)] #[])).run Tryz.prog w1= .ok () w2:=hp2;have hb2:Below w.heap.size w w2:=hb1.grown hg2 hb1.size (fun k e=>by cases e;exact ag _);clear hp2;obtain⟨w3,hp3,bF,hg3⟩:=hm2.put Tryz.underlying117 Tryz.underlying9 kG (.func (.func 75) #[.pointer (some ⟨p,0,none⟩)] #[]) (by first|rfl|simp);have hq3:(Instr.mapUpdate 117 (.map (some w.heap.size)) (.string ⟨#[114,101,103,105,111,110]⟩) (.func (.func 75) #[.pointer (some ⟨p,0,none⟩)] #[])).run Tryz.prog w2= .ok () w3:=hp3;have hb3:Below w.heap.size w w3:=hb2.grown hg3 hb2.size (fun k e=>by cases e;exact ag _);clear hp3;obtain⟨w4,Eu,hm4,hg4⟩:=bF.put Tryz.underlying117 Tryz.underlying9 pz (.func (.func 76) #[.pointer (some ⟨p,0,none⟩)] #[]) (by first|rfl|simp);have hq4:(Instr.mapUpdate 117 (.map (some w.heap.size)) (.string ⟨#[99,118,116]⟩) (.func (.func 76) #[.pointer (some ⟨p,0,none⟩)] #[])).run Tryz.prog w3= .ok () w4:=Eu;have hb4:Below w.heap.size w w4:=hb3.grown hg4 hb3.size (fun k e=>by cases e;exact ag _);clear Eu;obtain⟨w5,hp5,GU,hg5⟩:=hm4.put Tryz.underlying117 Tryz.underlying9 rY (.func (.func 77) #[.pointer (some ⟨p,0,none⟩)] #[]) (by first|rfl|simp);have hq5:(Instr.mapUpdate 117 (.map (some w.heap.size)) (.string ⟨#[102,117,110,99]⟩) (.func (.func 77) #[.pointer (some ⟨p,0,none⟩)] #[])).run Tryz.prog w4= .ok () w5:=hp5;have hb5:Below w.heap.size w w5:=hb4.grown hg5 hb4.size (fun k e=>by cases e;exact ag _);clear hp5;obtain⟨w6,AQ,uC,TQ⟩:=GU.put Tryz.underlying117 Tryz.underlying9 uN (.func (.func 78) #[.pointer (some ⟨p,0,none⟩)] #[]) (by first|rfl|simp);have hq6:(Instr.mapUpdate 117 (.map (some w.heap.size)) (.string ⟨#[99,108,97,115,115]⟩) (.func (.func 78) #[.pointer (some ⟨p,0,none⟩)] #[])).run Tryz.prog w5= .ok () w6:=AQ;have hb6:Below w.heap.size w w6:=hb5.grown TQ hb5.size (fun k e=>by cases e;exact ag _);clear AQ;obtain⟨w7,hp7,Ur,Uu⟩:=uC.put Tryz.underlying117 Tryz.underlying9 eQ (.func (.func 79) #[.pointer (some ⟨p,0,none⟩)] #[]) (by first|rfl|simp);have hq7:(Instr.mapUpdate 117 (.map (some w.heap.size)) (.string ⟨#[103,108,121,112,104]⟩) (.func (.func 79) #[.pointer (some ⟨p,0,none⟩)] #[])).run Tryz.prog w6= .ok () w7:=hp7;have hb7:Below w.heap.size w w7:=hb6.grown Uu hb6.size (fun k e=>by cases e;exact ag _);clear hp7;go_wp2_with fail
 refine(rW w7 p 81).mono ?_;rintro e w'' ⟨rfl,rfl⟩;obtain⟨u7,hu7⟩:∃u,((w7.alloc (.cells #[.pointer (some ⟨p,0,none⟩)] 111)).alloc (.cells #[.func (.func 81) #[.pointer (some ⟨p,0,none⟩)] #[]] 160))=u:=⟨_,rfl⟩
 have anZ:aoe u7 160 p 81 w7.heap.size (w7.heap.size+1):=hu7 ▸ aoe.new w7 160 p 81;have ab7:Below w7.heap.size w7 u7:=hu7 ▸ ((aqk _ _).alloc (ag _) _).alloc (by simp) _;have Ur:=Ur.below ab7;have hb7:=hb7.trans (ab7.mono hb7.size);rw[hu7];clear hu7 ab7;obtain⟨w8,hp8,KY,Ul⟩:=Ur.put Tryz.underlying117 Tryz.underlying9 iW (.func (.func 129) #[] #[.pointer (some ⟨w7.heap.size,0,none⟩),.pointer (some ⟨w7.heap.size+1,0,none⟩)]) (by first|rfl|simp);have hq8:(Instr.mapUpdate 117 (.map (some w.heap.size)) (.string ⟨#[99,111,110,116,111,117,114]⟩) (.func (.func 129) #[] #[.pointer (some ⟨w7.heap.size,0,none⟩),.pointer (some ⟨w7.heap.size+1,0,none⟩)])).run Tryz.prog u7= .ok () w8:=hp8;have hb8:Below w.heap.size w w8:=hb7.grown Ul hb7.size (fun k e=>by cases e;exact ag _);clear hp8;have anZ:=anZ.grown Ul Ur.isMap;go_wp2_with fail
 refine(rW w8 p 82).mono ?_;rintro e w'' ⟨rfl,rfl⟩;obtain⟨u8,hu8⟩:∃u,((w8.alloc (.cells #[.pointer (some ⟨p,0,none⟩)] 111)).alloc (.cells #[.func (.func 82) #[.pointer (some ⟨p,0,none⟩)] #[]] 160))=u:=⟨_,rfl⟩
 have aoj:aoe u8 160 p 82 w8.heap.size (w8.heap.size+1):=hu8 ▸ aoe.new w8 160 p 82;have U9:Below w8.heap.size w8 u8:=hu8 ▸ ((aqk _ _).alloc (ag _) _).alloc (by simp) _;have KY:=KY.below U9;have hb8:=hb8.trans (U9.mono hb8.size);have anZ:=anZ.below U9;rw[hu8];clear hu8 U9;obtain⟨w9,bT,rJ,aB⟩:=KY.put Tryz.underlying117 Tryz.underlying9 pX (.func (.func 129) #[] #[.pointer (some ⟨w8.heap.size,0,none⟩),.pointer (some ⟨w8.heap.size+1,0,none⟩)]) (by first|rfl|simp);have sU:(Instr.mapUpdate 117 (.map (some w.heap.size)) (.string ⟨#[112,97,114,116]⟩) (.func (.func 129) #[] #[.pointer (some ⟨w8.heap.size,0,none⟩),.pointer (some ⟨w8.heap.size+1,0,none⟩)])).run Tryz.prog u8= .ok () w9:=bT;have di:Below w.heap.size w w9:=hb8.grown aB hb8.size (fun k e=>by cases e;exact ag _);clear bT;have anZ:=anZ.grown aB KY.isMap;have aoj:=aoj.grown aB KY.isMap;go_wp2_with fail
 refine(rW w9 p 83).mono ?_;rintro e w'' ⟨rfl,rfl⟩;obtain⟨u9,Qr⟩:∃u,((w9.alloc (.cells #[.pointer (some ⟨p,0,none⟩)] 111)).alloc (.cells #[.func (.func 83) #[.pointer (some ⟨p,0,none⟩)] #[]] 160))=u:=⟨_,rfl⟩
 have an9:aoe u9 160 p 83 w9.heap.size (w9.heap.size+1):=Qr ▸ aoe.new w9 160 p 83;have Rx:Below w9.heap.size w9 u9:=Qr ▸ ((aqk _ _).alloc (ag _) _).alloc (by simp) _;have rJ:=rJ.below Rx;have di:=di.trans (Rx.mono di.size);have anZ:=anZ.below Rx;have aoj:=aoj.below Rx;rw[Qr];clear Qr Rx;obtain⟨w10,Jh,EK,rM⟩:=rJ.put Tryz.underlying117 Tryz.underlying9 kC (.func (.func 129) #[] #[.pointer (some ⟨w9.heap.size,0,none⟩),.pointer (some ⟨w9.heap.size+1,0,none⟩)]) (by first|rfl|simp);have hq10:(Instr.mapUpdate 117 (.map (some w.heap.size)) (.string ⟨#[97,110,99,104,111,114]⟩) (.func (.func 129) #[] #[.pointer (some ⟨w9.heap.size,0,none⟩),.pointer (some ⟨w9.heap.size+1,0,none⟩)])).run Tryz.prog u9= .ok () w10:=Jh;have pF:Below w.heap.size w w10:=di.grown rM di.size (fun k e=>by cases e;exact ag _);clear Jh;have anZ:=anZ.grown rM rJ.isMap;have aoj:=aoj.grown rM rJ.isMap;have an9:=an9.grown rM rJ.isMap;go_wp2_with fail
 refine(rW w10 p 84).mono ?_;rintro e w'' ⟨rfl,rfl⟩;obtain⟨u10,WA⟩:∃u,((w10.alloc (.cells #[.pointer (some ⟨p,0,none⟩)] 111)).alloc (.cells #[.func (.func 84) #[.pointer (some ⟨p,0,none⟩)] #[]] 160))=u:=⟨_,rfl⟩
 have aoo:aoe u10 160 p 84 w10.heap.size (w10.heap.size+1):=WA ▸ aoe.new w10 160 p 84;have DL:Below w10.heap.size w10 u10:=WA ▸ ((aqk _ _).alloc (ag _) _).alloc (by simp) _;have EK:=EK.below DL;have pF:=pF.trans (DL.mono pF.size);have anZ:=anZ.below DL;have aoj:=aoj.below DL;have an9:=an9.below DL;rw[WA];clear WA DL;obtain⟨ji,af9,Bj,Pm⟩:=EK.put Tryz.underlying117 Tryz.underlying9 nC (.func (.func 129) #[] #[.pointer (some ⟨w10.heap.size,0,none⟩),.pointer (some ⟨w10.heap.size+1,0,none⟩)]) (by first|rfl|simp);have hq11:(Instr.mapUpdate 117 (.map (some w.heap.size)) (.string ⟨#[100,101,108,116,97]⟩) (.func (.func 129) #[] #[.pointer (some ⟨w10.heap.size,0,none⟩),.pointer (some ⟨w10.heap.size+1,0,none⟩)])).run Tryz.prog u10= .ok () ji:=af9;have pg:Below w.heap.size w ji:=pF.grown Pm pF.size (fun k e=>by cases e;exact ag _);clear af9;have anZ:=anZ.grown Pm EK.isMap;have aoj:=aoj.grown Pm EK.isMap;have an9:=an9.grown Pm EK.isMap;have aoo:=aoo.grown Pm EK.isMap;go_wp2_with fail
 refine(rW ji p 85).mono ?_;rintro e w'' ⟨rfl,rfl⟩;obtain⟨u11,Xi⟩:∃u,((ji.alloc (.cells #[.pointer (some ⟨p,0,none⟩)] 111)).alloc (.cells #[.func (.func 85) #[.pointer (some ⟨p,0,none⟩)] #[]] 160))=u:=⟨_,rfl⟩
 have aox:aoe u11 160 p 85 ji.heap.size (ji.heap.size+1):=Xi ▸ aoe.new ji 160 p 85;have zM:Below ji.heap.size ji u11:=Xi ▸ ((aqk _ _).alloc (ag _) _).alloc (by simp) _;have Bj:=Bj.below zM;have pg:=pg.trans (zM.mono pg.size);have anZ:=anZ.below zM;have aoj:=aoj.below zM;have an9:=an9.below zM;have aoo:=aoo.below zM;rw[Xi];clear Xi zM;obtain⟨w12,agz,JB,Ij⟩:=Bj.put Tryz.underlying117 Tryz.underlying9 sS (.func (.func 129) #[] #[.pointer (some ⟨ji.heap.size,0,none⟩),.pointer (some ⟨ji.heap.size+1,0,none⟩)]) (by first|rfl|simp);have hq12:(Instr.mapUpdate 117 (.map (some w.heap.size)) (.string ⟨#[104,105,110,116]⟩) (.func (.func 129) #[] #[.pointer (some ⟨ji.heap.size,0,none⟩),.pointer (some ⟨ji.heap.size+1,0,none⟩)])).run Tryz.prog u11= .ok () w12:=agz;have afm:Below w.heap.size w w12:=pg.grown Ij pg.size (fun k e=>by cases e;exact ag _);clear agz;have anZ:=anZ.grown Ij Bj.isMap;have aoj:=aoj.grown Ij Bj.isMap;have an9:=an9.grown Ij Bj.isMap;have aoo:=aoo.grown Ij Bj.isMap;have aox:=aox.grown Ij Bj.isMap;obtain⟨oP,aeF,Jt,IW⟩:=JB.put Tryz.underlying117 Tryz.underlying9 rF (.func (.func 86) #[.pointer (some ⟨p,0,none⟩)] #[]) (by first|rfl|simp);have amL:(Instr.mapUpdate 117 (.map (some w.heap.size)) (.string ⟨#[99,104,97,114]⟩) (.func (.func 86) #[.pointer (some ⟨p,0,none⟩)] #[])).run Tryz.prog w12= .ok () oP:=aeF;have lm:Below w.heap.size w oP:=afm.grown IW afm.size (fun k e=>by cases e;exact ag _);clear aeF;have anZ:=anZ.grown IW JB.isMap;have aoj:=aoj.grown IW JB.isMap;have an9:=an9.grown IW JB.isMap;have aoo:=aoo.grown IW JB.isMap;have aox:=aox.grown IW JB.isMap;obtain⟨lZ,agm,Am,JJ⟩:=Jt.put Tryz.underlying117 Tryz.underlying9 lU (.func (.func 87) #[.pointer (some ⟨p,0,none⟩)] #[]) (by first|rfl|simp);have am4:(Instr.mapUpdate 117 (.map (some w.heap.size)) (.string ⟨#[108,111,111,107,117,112]⟩) (.func (.func 87) #[.pointer (some ⟨p,0,none⟩)] #[])).run Tryz.prog oP= .ok () lZ:=agm;have CU:Below w.heap.size w lZ:=lm.grown JJ lm.size (fun k e=>by cases e;exact ag _);clear agm;have anZ:=anZ.grown JJ Jt.isMap;have aoj:=aoj.grown JJ Jt.isMap;have an9:=an9.grown JJ Jt.isMap;have aoo:=aoo.grown JJ Jt.isMap;have aox:=aox.grown JJ Jt.isMap;go_wp2_with fail
 refine(Td lZ p 89).mono ?_;rintro e w'' ⟨rfl,rfl⟩;obtain⟨u14,Vy⟩:∃u,((lZ.alloc (.cells #[.pointer (some ⟨p,0,none⟩)] 111)).alloc (.cells #[.func (.func 89) #[.pointer (some ⟨p,0,none⟩)] #[]] 162))=u:=⟨_,rfl⟩
 have aoQ:aoe u14 162 p 89 lZ.heap.size (lZ.heap.size+1):=Vy ▸ aoe.new lZ 162 p 89;have xM:Below lZ.heap.size lZ u14:=Vy ▸ ((aqk _ _).alloc (ag _) _).alloc (by simp) _;have Am:=Am.below xM;have CU:=CU.trans (xM.mono CU.size);have anZ:=anZ.below xM;have aoj:=aoj.below xM;have an9:=an9.below xM;have aoo:=aoo.below xM;have aox:=aox.below xM;rw[Vy];clear Vy xM;obtain⟨Bl,afc,Fq,oC⟩:=Am.put Tryz.underlying117 Tryz.underlying9 mF (.func (.func 133) #[] #[.pointer (some ⟨lZ.heap.size,0,none⟩),.pointer (some ⟨lZ.heap.size+1,0,none⟩)]) (by first|rfl|simp);have alI:(Instr.mapUpdate 117 (.map (some w.heap.size)) (.string ⟨#[114,117,108,101]⟩) (.func (.func 133) #[] #[.pointer (some ⟨lZ.heap.size,0,none⟩),.pointer (some ⟨lZ.heap.size+1,0,none⟩)])).run Tryz.prog u14= .ok () Bl:=afc;have IK:Below w.heap.size w Bl:=CU.grown oC CU.size (fun k e=>by cases e;exact ag _);clear afc;have anZ:=anZ.grown oC Am.isMap;have aoj:=aoj.grown oC Am.isMap;have an9:=an9.grown oC Am.isMap;have aoo:=aoo.grown oC Am.isMap;have aox:=aox.grown oC Am.isMap;have aoQ:=aoQ.grown oC Am.isMap;obtain⟨w16,afC,akP,FB⟩:=Fq.put Tryz.underlying117 Tryz.underlying9 jo (.func (.func 90) #[.pointer (some ⟨p,0,none⟩)] #[]) (by first|rfl|simp);have anA:(Instr.mapUpdate 117 (.map (some w.heap.size)) (.string ⟨#[102,101,97,116,117,114,101]⟩) (.func (.func 90) #[.pointer (some ⟨p,0,none⟩)] #[])).run Tryz.prog Bl= .ok () w16:=afC;have hb16:Below w.heap.size w w16:=IK.grown FB IK.size (fun k e=>by cases e;exact ag _);clear afC;have anZ:=anZ.grown FB Fq.isMap;have aoj:=aoj.grown FB Fq.isMap;have an9:=an9.grown FB Fq.isMap;have aoo:=aoo.grown FB Fq.isMap;have aox:=aox.grown FB Fq.isMap;have aoQ:=aoQ.grown FB Fq.isMap;go_wp2_with fail
 go_ret
 refine⟨_,_,_,_,_,_,_,_,_,_,_,_,_,_,rfl,ag _,⟨akP,rfl,rfl,rfl,rfl,rfl,rfl,rfl,rfl,anZ,rfl,aoj,rfl,an9,rfl,aoo,rfl,aox,rfl,rfl,rfl,aoQ,rfl,?_⟩,hb16⟩;intro t nUnit nAxis nRegion nCvt nFunc nClass nGlyph nContour nPart nAnchor nDelta nHint nChar nLookup nRule nFeature;simp only[if_neg nUnit,if_neg nAxis,if_neg nRegion,if_neg nCvt,if_neg nFunc,if_neg nClass,if_neg nGlyph,if_neg nContour,if_neg nPart,if_neg nAnchor,if_neg nDelta,if_neg nHint,if_neg nChar,if_neg nLookup,if_neg nRule,if_neg nFeature]
attribute [-go_sem] Builtin.append_
theorem XU (w:World)(C rb p:Nat)(err:Int)(v0 v1 v2:Value)(A:Option Addr)(n c:Nat)(ws:List P3)(hC:Bk w C mP #[v0,v1,v2,.slice none 0 0,.slice none 0 0,.int .i64 0])(hR:Rdr w rb p err)
  (hw:RdT w dX A n 3 (dD ws)) (hl:∀x∈ws,x.2.2.length<=100000000) (hn:n<=1000000000):
  Calls Tryz.prog 138 #[.pointer (some ⟨rb,0,none⟩),.int .i64 4,.slice A n c,.pointer (some ⟨C,0,none⟩)] w fun e w'=>e= .returned (.tuple #[])/\aoP w C rb p v0 v1 v2 ((ah ws).foldl mQ err) [] ((ah ws).map jW) 0 w':=by
 have hrc:rb≠C:=fun e=>by
  subst e;have:=(bY hR hC).1
  revert this
  decide
 have hlk:((ah ws).map jW).length=n:=by rw[aqs,iq];exact hw.rd.aoE
 have hcall:=hd0 (acb w rb p err A n c ws hR hw hl hn);have HC:=hd0 hC;have hzc:C<w.heap.size:=hC.lt;generalize (ah ws).foldl mQ err=Bg at*
 generalize (ah ws).map jW=cl at*
 have Hlk:=hd0 hlk;clear hC hR hw hl hlk;go_enter Tryz.func138,Tryz.ntmps138
 go_wp2_with fail
 refine hcall.out.mono ?_;rintro e w1 ⟨v,rfl,A5,c5,rfl,AV,pK,hg5⟩;have b1:Bk w1 C mP _:=Bk.kept2 hg5 HC.out (fun e=>hrc e.symm);have k1:w1.cell? ⟨C,4,none⟩=some (.slice none 0 0):=b1.cell 4;have y1:=b1.frozen 4;have zc:=b1.lt;have HO:Hid (aoP w C rb p v0 v1 v2 Bg [] cl 0 (w1.setCell ⟨C,4,none⟩ (.slice A5 n c5))):=by
  refine⟨⟨none,0,A5,c5,?_,World.ownsRow_nil _ _ _ _,?_⟩,Bk.far pK (by simpa using hrc) _,((Two.refl w rb C).grown hg5 (fun g e=>by cases e;exact .inr (.inl rfl))).grown (dF w1 ⟨C,4,none⟩ _) (fun g e=>by cases e;exact .inr (.inr rfl))⟩
  ·have:=b1.set 4 (.slice A5 n c5);rw[Hlk.out];exact this
  have:=qU AV b1 (by decide) 4 (.slice A5 n c5);rw[Hlk.out];exact this
 clear AV pK hg5 b1;go_wp2
 go_end0
 exact⟨rfl,HO.out⟩
theorem acg (w:World)(C rb p:Nat)(err:Int)(v0 v1 v2:Value)(A:Option Addr)(n c:Nat)(ws:List P3)(hC:Bk w C mP #[v0,v1,v2,.slice none 0 0,.slice none 0 0,.int .i64 0])(hR:Rdr w rb p err)
  (hw:RdT w dX A n 3 (dD ws)) (hl:∀x∈ws,x.2.2.length<=100000000) {t:B} (ht:ah ws=[t]):
  Calls Tryz.prog 138 #[.pointer (some ⟨rb,0,none⟩),.int .i64 6,.slice A n c,.pointer (some ⟨C,0,none⟩)] w fun e w'=>e= .returned (.tuple #[])/\aoP w C rb p v0 v1 v2 (aT err t) [] [] (aI t) w':=by
 have hrc:rb≠C:=fun e=>by
  subst e;have:=(bY hR hC).1
  revert this
  decide
 obtain rfl:n=1:=by have:=iq ws;rw[ht] at this;have h2:=hw.rd.aoE;simp only[ay,ln] at this;omega
 obtain⟨b,o,x,y,z,rfl,hbl,hpz,q1,q2,q3⟩:=hw.rd.at3 (k:=0) (by omega);have hz:z=t:=by have:=congrArg (fun l=>l[0]?) ht;simp only[ah,aqO,hpz.out,Option.map_some] at this;simpa using this
 subst hz;have hzl:z.length<=100000000:=hl _ (aqt hpz.out);have hcall:=hd0 (dP w rb p err z hR hzl);have HC:=hd0 hC;have hzc:C<w.heap.size:=hC.lt;have q3':w.cell? ⟨b,o+2,none⟩=some (.string ⟨z.toArray⟩):=by simpa using q3
 clear hC hR hw hl ht hpz q1 q2 hzl;go_enter Tryz.func138,Tryz.ntmps138
 go_wp2_with fail
 refine hcall.out.mono ?_;rintro e w1 ⟨rfl,pK,hg5⟩;have b1:Bk w1 C mP _:=Bk.kept2 hg5 HC.out (fun e=>hrc e.symm);have k1:w1.cell? ⟨C,5,none⟩=some (.int .i64 0):=b1.cell 5;have y1:=b1.frozen 5;have zc:=b1.lt;have HO:Hid (aoP w C rb p v0 v1 v2 (aT err z) [] [] (aI z) (w1.setCell ⟨C,5,none⟩ (.int .i64 (aI z)))):=⟨⟨none,0,none,0,b1.set 5 _,World.ownsRow_nil _ _ _ _,World.ownsRow_nil _ _ _ _⟩,Bk.far pK (by simpa using hrc) _,((Two.refl w rb C).grown hg5 (fun g e=>by cases e;exact .inr (.inl rfl))).grown (dF w1 ⟨C,5,none⟩ _) (fun g e=>by cases e;exact .inr (.inr rfl))⟩
 clear pK hg5 b1;go_wp2
 go_end0
 exact⟨rfl,HO.out⟩
theorem acD (w:World)(C rb p:Nat)(kind err:Int)(v0 v1 v2:Value)(A:Option Addr)(n c:Nat)(hC:Bk w C mP #[v0,v1,v2,.slice none 0 0,.slice none 0 0,.int .i64 0])(hR:Rdr w rb p err)(hk:kind≠1/\kind≠2/\kind≠3/\kind≠5/\kind≠4/\kind≠6):
  Calls Tryz.prog 138 #[.pointer (some ⟨rb,0,none⟩),.int .i64 kind,.slice A n c,.pointer (some ⟨C,0,none⟩)] w fun e w'=>e= .returned (.tuple #[])/\aoP w C rb p v0 v1 v2 err [] [] 0 w':=by
 obtain⟨h1,h2,h3,h5,h4,h6⟩:=hk;have e1:(kind==1)=false:=by simpa using h1
 have e2:(kind==2)=false:=by simpa using h2
 have e3:(kind==3)=false:=by simpa using h3
 have e4:(kind==4)=false:=by simpa using h4
 have e5:(kind==5)=false:=by simpa using h5
 have e6:(kind==6)=false:=by simpa using h6
 have HO:Hid (aoP w C rb p v0 v1 v2 err [] [] 0 w):=⟨⟨none,0,none,0,hC,World.ownsRow_nil _ _ _ _,World.ownsRow_nil _ _ _ _⟩,hR,Two.refl _ _ _⟩
 clear hC hR h1 h2 h3 h4 h5 h6;go_enter Tryz.func138,Tryz.ntmps138
 go_wp2
 go_end0
 exact⟨rfl,HO.out⟩
end
section
attribute [-go_sem] Builtin.append_
def wQ (l:List Int):Int->Option Value:=fun x=>if x∈l then some (.int .i64 (l.idxOf x:Nat)) else none
theorem adD:wQ []=fun _=>none:=by funext x;simp[wQ]
theorem ab5 (l:List Int)(y:Int)(h:y ∉ l):wQ (l++[y])=fun x=>if x=y then some (.int .i64 (l.length:Nat)) else wQ l x:=by
 funext x
 unfold wQ;by_cases hxy:x=y
 ·subst hxy;rw[if_pos (by simp),if_pos rfl,List.idxOf_append,if_neg h];simp
 rw[if_neg hxy];by_cases hx:x∈l
 ·rw[if_pos (by simp[hx]),if_pos hx,List.idxOf_append,if_pos hx]
 rw[if_neg (by simp[hx,hxy]),if_neg hx]
theorem ado:(Tryz.prog.info? 3).map (fun i=>(i.zero,i.size,i.bytes))=some (some (.int .i64 0),1,8):=by kernel_rfl
theorem Gi {l:List Int}{k:Nat}{x:Int}(h:l[k]? =some x):l.take (k+1)=l.take k++[x]:=by rw[aq1,h];rfl
theorem Oo (w:World):(zeroValue 3).run Tryz.prog w= .ok (.int .i64 0) w:=by kernel_rfl
theorem aeS (n:Int)(w:World):(Instr.makeMap 245 (some (.int .i64 n))).run Tryz.prog w= .ok (.map (some w.heap.size)) (w.alloc (.map #[] 0)):=by simp[Instr.makeMap,run_underlying Tryz.underlying245,asInt,Result.andThen,newObj,go_sem];rfl
def aoU (w:World)(r:Except Int (List Int))(e:Ending)(w':World):Prop:=
 Below w.heap.size w w'/\match r with
  | .error c=>e= .returned (.tuple #[.slice none 0 0,.int .i64 c])
  | .ok o=>∃A' c',e= .returned (.tuple #[.slice A' o.length c',.int .i64 0])/\w'.ownsRow w.heap.size 3 1 (.slice A' o.length c') o.length (aP o)
def BN (l nm:List Int)(g:Int):Int:=nm.getD (l.idxOf g) 0
theorem Vw {w:World}{base M n c:Nat}{A:Option Addr}{xs:List Value}{f:Int->Option Value}(h:an0 JX w M f)(ho:w.ownsRow base 3 1 (.slice A n c) n xs):some M≠(Value.slice A n c).ownBlock:=fun e=>by
 obtain⟨cur,hb⟩:=bC ho e.symm;exact h.aoO hb
theorem VF (w:World)(A1 A2 A3:Option Addr)(n1 n2 n3 c1 c2 c3:Nat)(l st nm:List Int)(hst:st=setOf l)(h1:Rd w w.heap.size A1 n1 1 (aP l))(h2:Rd w w.heap.size A2 n2 1 (aP st))(h3:Rd w w.heap.size A3 n3 1 (aP nm))(k1:n1<=1000000000)(k2:n2<=1000000000)(k3:n3<=1000000000):
  Calls Tryz.prog 139 #[.slice A1 n1 c1,.slice A2 n2 c2,.slice A3 n3 c3] w (aoU w (eu l nm)):=by
 have l1:=hd0 h1.apq;have l2:=hd0 h2.apq;have l3:=hd0 h3.apq;have R1:=hd0 h1;have R2:=hd0 h2;have R3:=hd0 h3;have HST:=hd0 hst;obtain⟨i0,hi,hz0,hz1,hz2⟩:=info_parts ado;have hmk:=aeS n1;clear h1 h2 h3 hst;go_enter Tryz.func139,Tryz.ntmps139
 go_wp2_with fail
 go_loopw [21] (fun i wr=>∃k:Nat,k<=n1/\i= .int .i64 k/\an0 JX wr w.heap.size (wQ (l.take k))/\(l.take k).Nodup/\Below w.heap.size w wr) (fun i _=>n1 - (intOf i).toNat)
 case atStart=>exact⟨0,nz _,rfl,by rw[List.take_zero,adD];exact an0.new JX w,by simp,(aqk _ _).alloc (ag _) _⟩
 case round=>
  obtain⟨k,hk,rfl,hm,hnd,hb⟩:=hrel;have zm:=hm.lt;by_cases hlt:k<n1
  ·obtain⟨b,o,x,rfl,hbb,hx,q1⟩:=R1.out.atI hlt;have q2:wr.cell? ⟨b,o+k,none⟩=some (.int .i64 x):=((af hb).1 _ _ hbb).trans q1;have hlk:=hm.ao2 Tryz.underlying245 Tryz.underlying3 (Oo wr) x;have hlk2:(Instr.lookup 245 (.map (some w.heap.size)) (.int .i64 x) true).run Tryz.prog wr= .ok (.tuple #[(wQ (l.take k) x).getD (.int .i64 0),.bool (wQ (l.take k) x).isSome]) wr:=hlk;have hsn:=Gi hx.out;by_cases hin:x∈l.take k
   ·have hp:wQ (l.take k) x=some (.int .i64 ((l.take k).idxOf x:Nat)):=if_pos hin;rw[hp] at hlk2;simp only[Option.getD_some,Option.isSome_some] at hlk2;have HR:Hid (eu l nm= .error 24):=by show _=_;unfold eu;rw[if_pos];intro hnd2;have:(l.take (k+1)).Nodup:=hnd2.sublist (List.take_sublist _ _);rw[hsn,List.nodup_append] at this;exact this.2.2 x hin x (by simp) rfl
    have HB:=hd0 hb;clear hm hnd hb hlk hsn hin hp hx q1;go_wp2_with fail
    go_ret2
    refine⟨HB.out,?_⟩;rw[HR.out];rfl
   have hp:wQ (l.take k) x=none:=if_neg hin;rw[hp] at hlk2;simp only[Option.getD_none,Option.isSome_none] at hlk2;obtain⟨w2,hput,hm2,hg2⟩:=hm.put Tryz.underlying245 Tryz.underlying3 x (.int .i64 (k:Nat)) hp;have acQ:(Instr.mapUpdate 245 (.map (some w.heap.size)) (.int .i64 x) (.int .i64 (k:Nat))).run Tryz.prog wr= .ok () w2:=hput;have hlen:(l.take k).length=k:=by rw[aqH,l1.out];omega
   have hf:=ab5 (l.take k) x hin;rw[hlen,<-hsn] at hf;have HM:Hid (an0 JX w2 w.heap.size (wQ (l.take (k+1)))):=by show an0 _ _ _ _;rw[hf];exact hm2
   have HN:Hid ((l.take (k+1)).Nodup):=by show List.Nodup _;rw[hsn,List.nodup_append];exact⟨hnd,by simp,fun a ha c hc e=>by simp only[aql] at hc;subst hc;subst e;exact hin ha⟩
   have HB:Hid (Below w.heap.size w w2):=hb.grown hg2 hb.size (fun g e=>by cases e;exact ag _);clear hm hnd hb hlk hsn hin hp hx q1 hput hm2 hg2 hlen hf;go_wp2_with fail
   go_roundw
   case rel=>exact⟨k+1,by omega,by simp,HM.out,HN.out,HB.out⟩
   case measure=>simp[intOf];omega
  obtain rfl:k=n1:=by omega
  rw[aqE (by rw[l1.out];exact ag _)] at hm hnd;by_cases hne:n3=k
  ·subst hne;have HR:Hid (eu l nm= .ok (st.map (BN l nm))):=by show _=_;unfold eu;rw[if_neg (by simpa using hnd),if_neg (by rw[l1.out,l3.out];simp),HST.out];rfl
   have HM:=hd0 hm;have HB:=hd0 hb;have hsz:=hb.size;clear hm hnd hb;go_wp2_with (at_make;refine wpList_make_own _ rfl _ _ 22 rfl w.heap.size 3 i0 (.int .i64 0) 1 Tryz.underlying22 hi hz0 hz1 .i64 .i64 _ n2 rfl rfl rfl (by rw[hz2];omega) (by unfold maxLen;omega) (by omega) ?_;intro w0 hown hg0)
   have hm0:an0 JX w0 w.heap.size (wQ l):=HM.out.grown hg0 (by simp);have hb0:Below w.heap.size w w0:=HB.out.grown hg0 HB.out.size (fun g e=>by cases e);have HM0:=hd0 hm0;have HB0:=hd0 hb0;have HO0:=hd0 hown;clear hm0 hb0 hown hg0 hsz;go_loopw [13,47] (fun v i w'=>∃k:Nat,k<=n2/\i= .int .i64 k/\∃A c,v= .slice A k c/\w'.ownsRow w.heap.size 3 1 (.slice A k c) k (aP ((st.take k).map (BN l nm)))/\an0 JX w' w.heap.size (wQ l)/\Below w.heap.size w w') (fun _ i _=>n2 - (intOf i).toNat)
   case atStart=>exact⟨0,nz _,rfl,_,_,rfl,HO0.out,HM0.out,HB0.out⟩
   case round=>
    obtain⟨k,hk,rfl,A4,c4,rfl,ho,hm,hb⟩:=hrel;by_cases hlt:k<n2
    ·obtain⟨b,o,x,rfl,hbb,hx,q1⟩:=R2.out.atI hlt;have q2:wr.cell? ⟨b,o+k,none⟩=some (.int .i64 x):=((af hb).1 _ _ hbb).trans q1;have hxl:x∈l:=by have:=aqt hx.out;rw[HST.out] at this;exact(Dc x l).1 this
     have hjl:l.idxOf x<n3:=by rw[<-l1.out];exact List.idxOf_lt_length_iff.2 hxl
     obtain⟨b3,o3,y,rfl,hb3,hy,q3⟩:=R3.out.atI hjl;have q4:wr.cell? ⟨b3,o3+l.idxOf x,none⟩=some (.int .i64 y):=((af hb).1 _ _ hb3).trans q3;have hlk:=hm.look1 Tryz.underlying245 Tryz.underlying3 (Oo wr) x;have hlk2:(Instr.lookup 245 (.map (some w.heap.size)) (.int .i64 x) false).run Tryz.prog wr= .ok ((wQ l x).getD (.int .i64 0)) wr:=hlk;have hp:wQ l x=some (.int .i64 (l.idxOf x:Nat)):=if_pos hxl;rw[hp] at hlk2;simp only[Option.getD_some] at hlk2;have hzz:=aqu hb3 hb.size;have hzy:=aqu hbb hb.size;have hsn:Hid (aP ((st.take (k+1)).map (BN l nm))=aP ((st.take k).map (BN l nm))++[.int .i64 y]):=by
      show _=_;rw[Gi hx.out,aqY,DR];have:BN l nm x=y:=by unfold BN;rw[List.getD_eq_getElem?_getD,hy.out];rfl
      rw[aqv,aq9,this];rfl
     generalize l.idxOf x=j at*
     generalize aP ((st.take k).map (BN l nm))=xs at*
     have Hm:=hd0 hm;have Hb:=hd0 hb;have hs9:=hb.size;clear hx q1 hxl hy q3 hlk hp hm hb;go_wp2_with (at_builtin;refine iQ iO rfl (.tmp 51) (.tmp 58) rfl wr _ rfl w.heap.size k c4 A4 xs #[.int .i64 y] rfl rfl rfl ho (by simp[Value.oneCell']) (by omega) (by omega) ?_;intro A5 c5 w2 ho2 hg3 _)
     go_roundw
     case rel=>exact⟨k+1,by omega,by simp,A5,c5,rfl,by rw[hsn.out];exact ho2,Hm.out.grown hg3 (Vw Hm.out ho),Hb.out.grown hg3 Hb.out.size (fun g e=>(ho.lt g e).1)⟩
     case measure=>simp[intOf];omega
    obtain rfl:k=n2:=by omega
    rw[aqE (by rw[l2.out];exact ag _)] at ho;have Hb:=hd0 hb;have Ho:=hd0 ho;clear hm hb ho;go_wp2_with fail
    go_ret2
    refine⟨Hb.out,?_⟩;rw[HR.out];have bD:(st.map (BN l nm)).length=k:=by rw[aqs];exact l2.out
    show ∃A' c',_/\_;rw[bD];exact⟨A4,c4,rfl,Ho.out⟩
  have HR:Hid (eu l nm= .error 22):=by show _=_;unfold eu;rw[if_neg (by simpa using hnd),if_pos (by rw[l1.out,l3.out];exact hne)]
  have e1:((n3:Int)==(k:Int))=false:=by simp;omega
  have e2:((n3:Int) !=(k:Int))=true:=by simp;omega
  have HB:=hd0 hb;clear hm hnd hb hne;go_wp2_with fail
  go_ret2
  refine⟨HB.out,?_⟩;rw[HR.out];rfl
end
section
def jr:List (List B)->Nat
 |[]=>0
 |(w::_)::ls=>if w=eQ then jr ls+1 else jr ls
 |[]::ls=>jr ls
theorem uG (w:B)(r:List B)(L:List (List B)):jr ((w::r)::L)=if w=eQ then jr L+1 else jr L:=rfl
theorem ED (n:Nat)(a:List (List B))(l:List B):bf n (a++[l])=bf n a++bf (n+jr a) [l]:=by
 induction a generalizing n with
 |nil=>rfl
 |cons x a ih=>
  cases x with
  |nil=>exact ih n
  |cons w r=>
   rw[aqC,fK,fK,uG];split
   ·rw[ih,aqy,show n+1+jr a=n+(jr a+1) by omega]
   exact ih n
theorem Y2 (a:List (List B))(w:B)(r:List B):jr (a++[w::r])=if w=eQ then jr a+1 else jr a:=by
 induction a with
 |nil=>rfl
 |cons x a ih=>
  cases x with
  |nil=>exact ih
  |cons v q=>rw[aqC,uG,uG,ih];split<;>split<;>rfl
theorem Ua (a:List (List B)):jr a<=a.length:=by
 induction a with
 |nil=>exact ag _
 |cons x a ih=>
  cases x with
  |nil=>exact Nat.le_succ_of_le ih
  |cons w r=>rw[uG,ay];split<;>omega
def gF (gl:Gl):B->Option Value:=fun t=>(gl.lookup t).map fun n=> .int .i64 (n:Nat)
theorem X7 (n:Nat)(L:List (List B))(t:B)(m:Nat)(h:(bf n L).lookup t=some m):m<n+jr L:=by
 have key:∀(L:List (List B)) (n:Nat),∀x∈bf n L,x.2<n+jr L:=by
  intro L;induction L with
  |nil=>intro n x hx;simp[bf] at hx
  |cons l L ih=>
   intro n x hx;cases l with
   |nil=>exact ih n x hx
   |cons w r=>
    rw[fK] at hx;rw[uG];split at hx
    ·rename_i hw;rw[if_pos hw];rw[aqp] at hx;rcases hx with hx|hx
     ·unfold yV at hx;split at hx
      ·split at hx
       ·simp only[aql] at hx;subst hx;simp only;omega
       simp at hx
      simp at hx
     have:=ih (n+1) x hx;omega
    rename_i hw;rw[if_neg hw];exact ih n x hx
 have hm:(t,m)∈bf n L:=by
  revert h
  generalize bf n L=G;intro h;induction G with
  |nil=>simp at h
  |cons a G ih=>
   obtain⟨x,y⟩:=a;rw[List.lookup] at h;split at h
   ·rename_i hb;have:t=x:=by simpa using hb
    subst this;injection h with h
    subst h;simp
   exact List.mem_cons_of_mem _ (ih h)
 exact key L n _ hm
theorem UT {w wr:World}{A:Option Addr}{n k:Nat}{hs:List Value}{rows:List (List P3)}(hr:RdT w 119 A n 1 hs)(hin:RowsIn dX w hs rows)(hb:Below w.heap.size w wr)(hk:k<n):
  ∃b o r Ar kr cr,A=some ⟨b,o,none⟩/\Hid (rows[k]? =some r)/\b<wr.heap.size/\wr.cell? ⟨b,o+k,none⟩=some (.slice Ar kr cr)/\RdT wr dX Ar kr 3 (dD r)/\kr=r.length/\kr<=cr:=by
 have hr':=hr.below hb;have hin':=hin.below hb;obtain⟨b,o,cur,e,hbk,hc⟩:=hr'.2 (by omega);have hl:hs.length=n:=by have:=hr.1;omega
 have hk2:k<rows.length:=by rw[<-hin.1,hl];exact hk
 obtain⟨Ar,kr,cr,g1,g2,g3⟩:=hin'.2 k _ (aqn hk2);exact⟨b,o,rows[k],Ar,kr,cr,e,aqn hk2,hbk.lt,(hbk.cell _).trans (hc k _ g1),g2,g2.rd.aoE.symm,g3⟩
theorem afW (w:World):(Instr.makeMap 112 none).run Tryz.prog w= .ok (.map (some w.heap.size)) (w.alloc (.map #[] 0)):=by
 simp[Instr.makeMap,run_underlying Tryz.underlying112,Result.andThen,newObj,go_sem]
 try rfl
def aoS (w:World)(L:List (List B))(k:Nat)(wr:World):Prop:=an0 mD wr w.heap.size (gF (bf 0 (L.take k)))/\Below w.heap.size w wr
theorem aeq {G H:Gl}(h:∀t,H.lookup t=G.lookup t):∀t,gF H t=gF G t:=fun t=>by unfold gF;rw[h]
theorem aoS.skip {w wr w1:World}{L:List (List B)}{k:Nat}{l:List B}(h:aoS w L k wr)(hk:L[k]? =some l)(hb:Below wr.heap.size wr w1)(hs:∀t,(bf (0+jr (L.take k)) [l]).lookup t=none\/((bf 0 (L.take k)).lookup t).isSome):aoS w L (k+1) w1:=by
 refine⟨(h.1.below hb).congr fun t=> ?_,h.2.trans (hb.mono h.2.size)⟩;refine aeq (fun t=> ?_) t;rw[aq1,hk,Option.toList_some,ED,List.lookup_append];rcases hs t with h|h
 ·rw[h,Option.or_none]
 cases hx:(bf 0 (L.take k)).lookup t with
 |none=>rw[hx] at h;cases h
 |some v=>rfl
theorem aoS.put {w wr w1:World}{L:List (List B)}{k:Nat}{v:B}{l:List B}(h:aoS w L k wr)(hk:L[k]? =some (eQ::v::l))(hv:nameB v=true)(hn:(bf 0 (L.take k)).lookup v=none)
  (hm:an0 mD w1 w.heap.size (fun t=>if t=v then some (.int .i64 (jr (L.take k):Nat)) else gF (bf 0 (L.take k)) t)) (hg:wr.grownBy w1 (some w.heap.size)):aoS w L (k+1) w1:=by
 refine⟨hm.congr fun t=> ?_,h.2.grown hg h.2.size (fun k e=>by cases e;exact ag _)⟩;unfold gF;rw[aq1,hk,Option.toList_some,ED,List.lookup_append];have e1:bf (0+jr (L.take k)) [eQ::v::l]=[(v,jr (L.take k))]:=by rw[fK,if_pos rfl,yV];simp[hv,bf]
 rw[e1];by_cases ht:t=v
 ·subst ht;rw[if_pos rfl,hn];simp[List.lookup]
 have hb:(t==v)=false:=by simpa using ht
 rw[if_neg ht,List.lookup,hb];simp
theorem NG (w:World)(A:Option Addr)(n c:Nat)(rows:List (List P3))(hs:List Value)(hr:RdT w 119 A n 1 hs)(hin:RowsIn dX w hs rows)(hn:n<=1000000000)(hne:∀r∈rows,r≠[])(hl:∀r∈rows,r.length<=1000000000/\∀x∈r,x.2.2.length<=100000000):
  Calls Tryz.prog 39 #[.slice A n c] w fun e w'=>∃M,e= .returned (.map (some M))/\w.heap.size<=M/\an0 mD w' M (gF (bf 0 (aX rows)))/\Below w.heap.size w w':=by
 have hlen:hs.length=n:=by have:=hr.1;omega
 have hrl:=hd0 (show(aX rows).length=n by unfold aX;rw[aqs,<-hin.1];exact hlen);have HW:=hd0 hr;have XY:=hd0 hin;have HL:=hd0 hl;have HNE:=hd0 hne;have hmk:=afW w;clear hr hin hl hne hlen;go_enter Tryz.func39,Tryz.ntmps39
 go_wp2_with fail
 clear hmk;go_loopw [4,12] (fun cnt i wr=>∃k:Nat,k<=n/\i= .int .i64 k/\cnt= .int .i64 (jr ((aX rows).take k):Nat)/\aoS w (aX rows) k wr) (fun _ i _=>n - (intOf i).toNat)
 case atStart=>exact⟨0,nz _,rfl,rfl,an0.new mD w,(aqk _ _).alloc (ag _) _⟩
 case round=>
  obtain⟨k,hk,rfl,rfl,hst⟩:=hrel;have zm:=hst.1.lt;by_cases hlt:k<n
  ·obtain⟨b,o,r,Ar,kr,cr,rfl,hp,hbw,q1,hrd,hkr,-⟩:=UT HW.out XY.out hst.2 hlt;have hrm:=aqt hp.out;have hLn:aok wr Ar kr r:=⟨hrd,(HL.out r hrm).2,by rw[hkr];exact(HL.out r hrm).1⟩
   obtain⟨t,l,htx⟩:∃t l,ah r=t::l:=by
    have:=HNE.out r hrm;cases r with
    |nil=>exact absurd rfl this
    |cons x q=>exact⟨_,_,rfl⟩
   have hkl:(aX rows)[k]? =some (t::l):=by unfold aX;rw[aqO,hp.out,Option.map_some,htx]
   have hkn:kr=l.length+1:=by rw[<-hLn.length];exact dG htx
   obtain⟨b1,o1,rfl,hb1,p1,hz1⟩:=hLn.word (k:=0) (t:=t) (by rw[htx];rfl) (d:=0) rfl;have hcl:=Ua ((aX rows).take k);rw[aqH,hrl.out] at hcl;have hcs:Hid (jr ((aX rows).take (k+1))=if t=eQ then jr ((aX rows).take k)+1 else jr ((aX rows).take k)):=by show _=_;rw[aq1,hkl,Option.toList_some,Y2]
   have HST:=hd0 hst;have BX:=hd0 hkl;have hc9:jr ((aX rows).take k)<=1000000000:=by omega
   generalize hcg:jr ((aX rows).take k)=cg at*
   have HCG:=hd0 hcg;by_cases ht:t=eQ
   ·subst ht;cases l with
    |nil=>
     simp only[ln,aq2] at hkn;subst hkn;have yt:Hid (∀w1,Below wr.heap.size wr w1->aoS w (aX rows) (k+1) w1):=fun w1 hb=>HST.out.skip BX.out hb (fun t=> .inl rfl)
     clear hst hkl hcg hrd hkr hLn htx hp hrm hcl;go_wp2_with fail
     go_roundw
     case rel=>exact⟨k+1,by omega,by simp,by rw[hcs.out];simp,yt.out _ (aqk _ _)⟩
     case measure=>simp[intOf];omega
    |cons v l=>
     obtain⟨b2,o2,e',-,p2,hz2⟩:=hLn.word (k:=1) (t:=v) (by rw[htx];rfl) (d:=3) rfl;obtain⟨rfl,rfl⟩:b1=b2/\o1=o2:=by simpa using e'
     clear e';have hk2:(kr:Int)>1:=by rw[hkn];simp;omega
     have hlk0:=HST.out;cases hv:nameB v with
     |false=>
      have yt:Hid (∀w1,Below wr.heap.size wr w1->aoS w (aX rows) (k+1) w1):=fun w1 hb=>HST.out.skip BX.out hb (fun t=> .inl (by
       rw[fK,if_pos rfl,yV];simp[hv,bf]))
      have hkk:1<kr:=by omega
      clear hst hkl hcg hrd hkr hLn htx hp hrm hcl hlk0 hkn;go_wp2_with (go_at_call 72;refine(Aj _ v).mono ?_;rintro e w1 ⟨rfl,di⟩;rw[hv];have UO:=hd0 di;clear di)
      go_roundw
      case rel=>exact⟨k+1,by omega,by simp,by rw[hcs.out];simp,yt.out _ UO.out⟩
      case measure=>simp[intOf];omega
     |true=>
      have HV:=hd0 hv;have hkk:1<kr:=by omega
      have afV:∀w1,Below wr.heap.size wr w1->an0 mD w1 w.heap.size (gF (bf 0 ((aX rows).take k))):=fun w1 hb=>HST.out.1.below hb
      cases hx:(bf 0 ((aX rows).take k)).lookup v with
      |none=>
       have hf0:gF (bf 0 ((aX rows).take k)) v=none:=by unfold gF;rw[hx];rfl
       have HX:=hd0 hx;have HF0:=hd0 hf0;clear hst hkl hrd hkr hLn htx hp hrm hcl hlk0 hkn hx hf0 hv;go_wp2_with (go_at_call 72;refine(Aj _ v).mono ?_;rintro e w1 ⟨rfl,di⟩;rw[HV.out];have UO:=hd0 di;have p2':=((af di).1 _ _ hb1).trans p2;have rJ:=afV w1 di;have hlk:=rJ.ao2 Tryz.underlying112 Tryz.underlying9 (Oo w1) v;rw[HF0.out] at hlk;obtain⟨w2,hput,hm2,hg2⟩:=rJ.put Tryz.underlying112 Tryz.underlying9 v (.int .i64 (cg:Nat)) HF0.out;have acQ:(Instr.mapUpdate 112 (.map (some w.heap.size)) (.string ⟨v.toArray⟩) (.int .i64 (cg:Nat))).run Tryz.prog w1= .ok () w2:=hput;have hlk2:(Instr.lookup 112 (.map (some w.heap.size)) (.string ⟨v.toArray⟩) true).run Tryz.prog w1= .ok (.tuple #[.int .i64 0,.bool false]) w1:=hlk;have sD:=hd0 hm2;have HG2:=hd0 hg2;clear di rJ hlk hput hm2 hg2)
       go_roundw
       case rel=>refine⟨k+1,by omega,by simp,by rw[hcs.out];simp,?_⟩;refine aoS.put (wr:=w1) (L:=aX rows) (k:=k) ⟨HST.out.1.below UO.out,HST.out.2.trans (UO.out.mono HST.out.2.size)⟩ BX.out HV.out HX.out ?_ HG2.out;rw[HCG.out];exact sD.out
       case measure=>simp[intOf];omega
      |some m=>
       have hf0:gF (bf 0 ((aX rows).take k)) v=some (.int .i64 (m:Nat)):=by unfold gF;rw[hx];rfl
       have HF0:=hd0 hf0;have yt:Hid (∀w1,Below wr.heap.size wr w1->aoS w (aX rows) (k+1) w1):=fun w1 hb=>HST.out.skip BX.out hb (fun x=>by
        rw[fK,if_pos rfl,yV];by_cases hxv:x=v
        ·subst hxv;exact .inr (by rw[hx];rfl)
        refine .inl ?_;have hb:(x==v)=false:=by simpa using hxv
        simp[HV.out,bf,List.lookup,hb])
       clear hst hkl hrd hkr hLn htx hp hrm hcl hlk0 hkn hx hf0 hv;go_wp2_with (go_at_call 72;refine(Aj _ v).mono ?_;rintro e w1 ⟨rfl,di⟩;rw[HV.out];have UO:=hd0 di;have p2':=((af di).1 _ _ hb1).trans p2;have rJ:=afV w1 di;have hlk:=rJ.ao2 Tryz.underlying112 Tryz.underlying9 (Oo w1) v;rw[HF0.out] at hlk;have hlk2:(Instr.lookup 112 (.map (some w.heap.size)) (.string ⟨v.toArray⟩) true).run Tryz.prog w1= .ok (.tuple #[.int .i64 (m:Nat),.bool true]) w1:=hlk;clear di rJ hlk)
       go_roundw
       case rel=>exact⟨k+1,by omega,by simp,by rw[hcs.out];simp,yt.out _ UO.out⟩
       case measure=>simp[intOf];omega
   have e1:(t==[103,108,121,112,104])=false:=by simpa using ht
   have e2:(t !=[103,108,121,112,104])=true:=by simpa using ht
   have hk0:0<kr:=by omega
   have yt:Hid (∀w1,Below wr.heap.size wr w1->aoS w (aX rows) (k+1) w1):=fun w1 hb=>HST.out.skip BX.out hb (fun x=> .inl (by rw[fK,if_neg ht];rfl))
   have HT:=hd0 ht;clear hst hkl hcg hrd hkr hLn htx hp hrm hcl ht hkn;go_wp2_with fail
   go_roundw
   case rel=>exact⟨k+1,by omega,by simp,by rw[hcs.out,if_neg HT.out],yt.out _ (aqk _ _)⟩
   case measure=>simp[intOf];omega
  obtain rfl:k=n:=by omega
  have hfin:an0 mD wr w.heap.size (gF (bf 0 (aX rows))):=by
   have:=hst.1
   rwa [aqE (by rw[hrl.out];exact ag _)] at this
  have HF:=hd0 hfin;have Ls:=hd0 hst.2;clear hfin hst;go_wp2_with fail
  go_ret
  exact⟨_,rfl,ag _,HF.out,Ls.out⟩
attribute [-go_sem] Builtin.append_
abbrev Ep:TypeId:=119
abbrev tWr:TypeId:=211
def aoV (w1:World)(rows:List (List P3))(vs:List Value)(k:Nat)(wr:World):Prop:=
 ∃hs:List Value,hs.length=3/\Bk wr w1.heap.size iU vs.toArray/\Bk wr (w1.heap.size+1) tWr hs.toArray/\RowsIn dX wr vs rows/\Below w1.heap.size w1 wr/\
  ∀(j:Nat) (r:List P3),j<k->rows[j]? =some r->∃S A c hj,jc r=some S/\hs[j]? =some (.slice A S.length c)/\RdT wr Ep A S.length 1 hj/\RowsIn dX wr hj S
theorem zU {w:World}{hs:List Value}{rows:List (List P3)}(h:RowsIn dX w hs rows){g:Nat}{t:TypeId}{cs:Array Value}(hb:Bk w g t cs)(hne:dX≠t)(i:Nat)(u:Value):RowsIn dX (w.setCell ⟨g,i,none⟩ u) hs rows:=h.kept fun _ _ _ hr=>hr.ape hb hne i u
theorem aoV.start {w1:World}{rows:List (List P3)}{a b c d:Value}(hin:RowsIn dX w1 [a,b,c,d] rows):aoV w1 rows [a,b,c,d] 0 ((w1.alloc (.cells #[a,b,c,d] iU)).alloc (.cells #[.slice none 0 0,.slice none 0 0,.slice none 0 0] tWr)):=by have h1:Bk (w1.alloc (.cells #[a,b,c,d] iU)) w1.heap.size iU #[a,b,c,d]:=Bk.new _ _ _;refine⟨[.slice none 0 0,.slice none 0 0,.slice none 0 0],rfl,h1.alloc _,?_,(hin.alloc _).alloc _,((aqk _ _).alloc (ag _) _).alloc (by simp) _,fun j r h=>by omega⟩;have:=Bk.new (w1.alloc (.cells #[a,b,c,d] iU)) tWr #[.slice none 0 0,.slice none 0 0,.slice none 0 0];simpa using this
theorem aoV.next {w1 wr w2:World}{rows:List (List P3)}{vs:List Value}{k:Nat}{r:List P3}{S:List (List P3)}{v:Value}(h:aoV w1 rows vs k wr)(hk:k<3)(hr:rows[k]? =some r)(hS:jc r=some S)(hret:vY dX Ep wr w2 S v):aoV w1 rows vs (k+1) (w2.setCell ⟨w1.heap.size+1,k,none⟩ v):=by
 obtain⟨hs,l3,b1,b2,hin,hb,hj⟩:=h;obtain⟨A,c,h9,rfl,q1,q2,q3⟩:=hret;have b1':=b1.keep (q3.block _ b1.lt);have b2':=b2.keep (q3.block _ b2.lt);refine⟨hs.set k (.slice A S.length c),by simp[l3],Bk.far b1' (by simp) _,?_,zU (hin.below q3) b2' (by decide) _ _,(hb.trans (q3.mono hb.size)).setCell (by simp) _,fun j r' hlt hr'=> ?_⟩
 ·have:=b2'.set k (.slice A S.length c);simpa using this
 by_cases hjk:j=k
 ·subst hjk;rw[hr] at hr';cases hr';exact⟨S,A,c,h9,hS,by rw[List.getElem?_set_self (by omega)],q1.ape b2' (by decide) _ _,zU q2 b2' (by decide) _ _⟩
 obtain⟨S',A',c',hj',e1,e2,e3,e4⟩:=hj j r' (by omega) hr';exact⟨S',A',c',hj',e1,by rw[List.getElem?_set_ne (fun e=>hjk e.symm)];exact e2,(e3.below q3).ape b2' (by decide) _ _,zU (e4.below q3) b2' (by decide) _ _⟩
theorem Wp (gl:Gl)(s:PS){l:List B}{init:List Lookup}{lk:Lookup}(hs:s.f.anM=init++[lk])(h:pR l=none):eF gl s l= .error 22:=by unfold eF;rw[hs,List.getLast?_append];simp only[List.getLast?_singleton,Option.some_or];rw[h]
theorem Wh (gl:Gl)(s:PS){l:List B}{init:List Lookup}{lk:Lookup}(hs:s.f.anM=init++[lk]){p0 p1 p2 p3:List B}(h:pR l=some [p0,p1,p2,p3])(hn:fD p0=none\/fD p1=none\/fD p2=none):eF gl s l= .error 22:=by
 unfold eF;rw[hs,List.getLast?_append];simp only[List.getLast?_singleton,Option.some_or];rw[h];simp only;rcases hn with h|h|h
 ·rw[h]
 ·rw[h];cases fD p0<;>rfl
 rw[h];cases fD p0<;>cases fD p1<;>rfl
theorem Gs (s:PS)(h:Lookup->Lookup){init:List Lookup}{lk:Lookup}(hs:s.f.anM=init++[lk]):jG s h= {s with f:= {s.f with anM:=init++[h lk]}} :=by unfold jG;rw[hs,List.dropLast_concat,List.getLast?_append];rfl
end
end Go.Proofs.YtkijckccfookeaaGreatDoor
