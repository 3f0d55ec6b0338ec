/- Lemmas. -/
import Derived.Test.YtkijckccfookeaaGreatDoorUnI
import Derived.Test.YtkijckccfookeaaGreatDoorPbB
set_option linter.unusedVariables false
set_option linter.unusedSimpArgs false
set_option maxRecDepth 100000
set_option maxHeartbeats 32000000
namespace Go.Proofs.YtkijckccfookeaaGreatDoor
section
open Go.RowKit
theorem qJ (w:World)(p F:Nat):Calls Tryz.prog 80 #[.pointer (some ⟨p,0,none⟩),.func (.func F) #[.pointer (some ⟨p,0,none⟩)] #[]] w fun e w'=>e= .returned (.func (.func 129) #[] #[.pointer (some ⟨w.heap.size,0,none⟩),.pointer (some ⟨w.heap.size+1,0,none⟩)])/\
  w'=(w.alloc (.cells #[.pointer (some ⟨p,0,none⟩)] 111)).alloc (.cells #[.func (.func F) #[.pointer (some ⟨p,0,none⟩)] #[]] 160):=by
 go_enter Tryz.func80,Tryz.ntmps80
 go_wp2;go_ret
 exact⟨by simp,rfl⟩
theorem Ns (w:World)(p F:Nat):Calls Tryz.prog 88 #[.pointer (some ⟨p,0,none⟩),.func (.func F) #[.pointer (some ⟨p,0,none⟩)] #[]] w fun e w'=>e= .returned (.func (.func 133) #[] #[.pointer (some ⟨w.heap.size,0,none⟩),.pointer (some ⟨w.heap.size+1,0,none⟩)])/\
  w'=(w.alloc (.cells #[.pointer (some ⟨p,0,none⟩)] 111)).alloc (.cells #[.func (.func F) #[.pointer (some ⟨p,0,none⟩)] #[]] 162):=by
 go_enter Tryz.func88,Tryz.ntmps88
 go_wp2;go_ret
 exact⟨by simp,rfl⟩
def pV (p F:Nat):Value:= .func (.func F) #[.pointer (some ⟨p,0,none⟩)] #[]
def cV (F a b:Nat):Value:= .func (.func F) #[] #[.pointer (some ⟨a,0,none⟩),.pointer (some ⟨b,0,none⟩)]
structure aib (w:World)(t:TypeId)(p F a b:Nat):Prop where
 par:Bk w a 111 #[.pointer (some ⟨p,0,none⟩)]
 fn:Bk w b t #[pV p F]
theorem aib.below {w w':World}{t:TypeId}{p F a b:Nat}(h:aib w t p F a b)(hb:Below w.heap.size w w'):aib w' t p F a b:=⟨h.par.keep (hb.block _ h.par.lt),h.fn.keep (hb.block _ h.fn.lt)⟩
theorem aib.grown {w w':World}{t:TypeId}{p F a b m:Nat}(h:aib w t p F a b)(hg:w.grownBy w' (some m))(hm:∃es c,w.heap[m]? =some (.map es c)):aib w' t p F a b:=by
 obtain⟨es,c,hm⟩:=hm;refine⟨h.par.keep (hg.block _ h.par.lt fun e=> ?_),h.fn.keep (hg.block _ h.fn.lt fun e=> ?_)⟩
 ·injection e with e
  subst e;have:=h.par;unfold Bk at this;rw[hm] at this;cases this
 injection e with e
 subst e;have:=h.fn;unfold Bk at this;rw[hm] at this;cases this
theorem aib.new (w:World)(t:TypeId)(p F:Nat):aib ((w.alloc (.cells #[.pointer (some ⟨p,0,none⟩)] 111)).alloc (.cells #[pV p F] t)) t p F w.heap.size (w.heap.size+1):=by refine⟨(Bk.new w _ _).alloc _,?_⟩;have:=Bk.new (w.alloc (.cells #[.pointer (some ⟨p,0,none⟩)] 111)) t #[pV p F];simpa using this
theorem abn (w:World):(Instr.makeMap 117 none).run Tryz.prog w= .ok (.map (some w.heap.size)) (w.alloc (.map #[] 0)):=by
 simp[Instr.makeMap,run_underlying Tryz.underlying117,Result.andThen,newObj,go_sem]
 try rfl
structure ajb (w:World)(p M:Nat)(f:B->Option Value)(jk jo oZ pz jS jT lV lX oV pg oU pF:Nat):Prop where
 map:ah0 lU w M f
 akc:f jK=some (pV p 73)
 aka:f oW=some (pV p 74)
 ajQ:f iM=some (pV p 75)
 akk:f kF=some (pV p 76)
 akd:f mX=some (pV p 77)
 ajX:f sH=some (pV p 78)
 ajV:f dM=some (pV p 79)
 ajx:f eX=some (cV 129 jk jo)
 ahX:aib w 160 p 81 jk jo
 akb:f mY=some (cV 129 oZ pz)
 aie:aib w 160 p 82 oZ pz
 ajT:f jd=some (cV 129 jS jT)
 ah8:aib w 160 p 83 jS jT
 aj2:f kC=some (cV 129 lV lX)
 aio:aib w 160 p 84 lV lX
 ake:f kP=some (cV 129 oV pg)
 aiw:aib w 160 p 85 oV pg
 aj9:f pq=some (pV p 86)
 ajR:f fH=some (pV p 87)
 akg:f dF=some (cV 133 oU pF)
 aiR:aib w 162 p 89 oU pF
 ajO:f iw=some (pV p 90)
 none:∀t,t≠jK->t≠oW->t≠iM->t≠kF->t≠mX->t≠sH->t≠dM->t≠eX->t≠mY->t≠jd->t≠kC->t≠kP->t≠pq->t≠fH->t≠dF->t≠iw->f t=none
theorem Jl (w:World)(p:Nat):Calls Tryz.prog 40 #[.pointer (some ⟨p,0,none⟩)] w fun e w'=>∃M f jk jo oZ pz jS jT lV lX oV pg oU pF,e= .returned (.map (some M))/\w.heap.size<=M/\ajb w' p M f jk jo oZ pz jS jT lV lX oV pg oU pF/\Below w.heap.size w w':=by
 go_enter Tryz.func40,Tryz.ntmps40
 have hmk:=abn w;have hm0:=ah0.new lU w;have hb0:Below w.heap.size w (w.alloc (.map #[] 0)):=(akl _ _).alloc (nr _) _;obtain⟨w1,hp1,hm1,hg1⟩:=hm0.put Tryz.underlying117 Tryz.underlying9 jK (.func (.func 73) #[.pointer (some ⟨p,0,none⟩)] #[]) (by first|rfl|simp);have hq1:(Instr.mapUpdate 117 (.map (some w.heap.size)) (.string ⟨#[117,110,105,116]⟩) (.func (.func 73) #[.pointer (some ⟨p,0,none⟩)] #[])).run Tryz.prog (w.alloc (.map #[] 0))= .ok () w1:=hp1;have hb1:Below w.heap.size w w1:=hb0.grown hg1 hb0.size (fun k e=>by cases e;exact nr _);clear hp1;obtain⟨w2,hp2,hm2,hg2⟩:=hm1.put Tryz.underlying117 Tryz.underlying9 oW (.func (.func 74) #[.pointer (some ⟨p,0,none⟩)] #[]) (by first|rfl|simp);have hq2:(Instr.mapUpdate 117 (.map (some w.heap.size)) (.string ⟨#[97,120,105,115]⟩) (.func (.func 74) #[.pointer (some ⟨p,0,none⟩)] #[])).run Tryz.prog w1= .ok () w2:=hp2;have hb2:Below w.heap.size w w2:=hb1.grown hg2 hb1.size (fun k e=>by cases e;exact nr _);clear hp2;obtain⟨w3,hp3,hm3,hg3⟩:=hm2.put Tryz.underlying117 Tryz.underlying9 iM (.func (.func 75) #[.pointer (some ⟨p,0,none⟩)] #[]) (by first|rfl|simp);have hq3:(Instr.mapUpdate 117 (.map (some w.heap.size)) (.string ⟨#[114,101,103,105,111,110]⟩) (.func (.func 75) #[.pointer (some ⟨p,0,none⟩)] #[])).run Tryz.prog w2= .ok () w3:=hp3;have hb3:Below w.heap.size w w3:=hb2.grown hg3 hb2.size (fun k e=>by cases e;exact nr _);clear hp3;obtain⟨w4,Oz,hm4,hg4⟩:=hm3.put Tryz.underlying117 Tryz.underlying9 kF (.func (.func 76) #[.pointer (some ⟨p,0,none⟩)] #[]) (by first|rfl|simp);have hq4:(Instr.mapUpdate 117 (.map (some w.heap.size)) (.string ⟨#[99,118,116]⟩) (.func (.func 76) #[.pointer (some ⟨p,0,none⟩)] #[])).run Tryz.prog w3= .ok () w4:=Oz;have hb4:Below w.heap.size w w4:=hb3.grown hg4 hb3.size (fun k e=>by cases e;exact nr _);clear Oz;obtain⟨w5,hp5,hm5,hg5⟩:=hm4.put Tryz.underlying117 Tryz.underlying9 mX (.func (.func 77) #[.pointer (some ⟨p,0,none⟩)] #[]) (by first|rfl|simp);have hq5:(Instr.mapUpdate 117 (.map (some w.heap.size)) (.string ⟨#[102,117,110,99]⟩) (.func (.func 77) #[.pointer (some ⟨p,0,none⟩)] #[])).run Tryz.prog w4= .ok () w5:=hp5;have hb5:Below w.heap.size w w5:=hb4.grown hg5 hb4.size (fun k e=>by cases e;exact nr _);clear hp5;obtain⟨w6,hp6,hm6,AP⟩:=hm5.put Tryz.underlying117 Tryz.underlying9 sH (.func (.func 78) #[.pointer (some ⟨p,0,none⟩)] #[]) (by first|rfl|simp);have hq6:(Instr.mapUpdate 117 (.map (some w.heap.size)) (.string ⟨#[99,108,97,115,115]⟩) (.func (.func 78) #[.pointer (some ⟨p,0,none⟩)] #[])).run Tryz.prog w5= .ok () w6:=hp6;have hb6:Below w.heap.size w w6:=hb5.grown AP hb5.size (fun k e=>by cases e;exact nr _);clear hp6;obtain⟨w7,hp7,X7,EP⟩:=hm6.put Tryz.underlying117 Tryz.underlying9 dM (.func (.func 79) #[.pointer (some ⟨p,0,none⟩)] #[]) (by first|rfl|simp);have hq7:(Instr.mapUpdate 117 (.map (some w.heap.size)) (.string ⟨#[103,108,121,112,104]⟩) (.func (.func 79) #[.pointer (some ⟨p,0,none⟩)] #[])).run Tryz.prog w6= .ok () w7:=hp7;have hb7:Below w.heap.size w w7:=hb6.grown EP hb6.size (fun k e=>by cases e;exact nr _);clear hp7;go_wp2_with fail
 refine(qJ w7 p 81).mono ?_;rintro e w'' ⟨rfl,rfl⟩;obtain⟨u7,Yt⟩:∃u,((w7.alloc (.cells #[.pointer (some ⟨p,0,none⟩)] 111)).alloc (.cells #[.func (.func 81) #[.pointer (some ⟨p,0,none⟩)] #[]] 160))=u:=⟨_,rfl⟩
 have ahX:aib u7 160 p 81 w7.heap.size (w7.heap.size+1):=Yt ▸ aib.new w7 160 p 81;have Wq:Below w7.heap.size w7 u7:=Yt ▸ ((akl _ _).alloc (nr _) _).alloc (by simp) _;have X7:=X7.below Wq;have hb7:=hb7.trans (Wq.mono hb7.size);rw[Yt];clear Yt Wq;obtain⟨w8,hp8,Iw,Es⟩:=X7.put Tryz.underlying117 Tryz.underlying9 eX (.func (.func 129) #[] #[.pointer (some ⟨w7.heap.size,0,none⟩),.pointer (some ⟨w7.heap.size+1,0,none⟩)]) (by first|rfl|simp);have hq8:(Instr.mapUpdate 117 (.map (some w.heap.size)) (.string ⟨#[99,111,110,116,111,117,114]⟩) (.func (.func 129) #[] #[.pointer (some ⟨w7.heap.size,0,none⟩),.pointer (some ⟨w7.heap.size+1,0,none⟩)])).run Tryz.prog u7= .ok () w8:=hp8;have hb8:Below w.heap.size w w8:=hb7.grown Es hb7.size (fun k e=>by cases e;exact nr _);clear hp8;have ahX:=ahX.grown Es X7.isMap;go_wp2_with fail
 refine(qJ w8 p 82).mono ?_;rintro e w'' ⟨rfl,rfl⟩;obtain⟨u8,Yg⟩:∃u,((w8.alloc (.cells #[.pointer (some ⟨p,0,none⟩)] 111)).alloc (.cells #[.func (.func 82) #[.pointer (some ⟨p,0,none⟩)] #[]] 160))=u:=⟨_,rfl⟩
 have aie:aib u8 160 p 82 w8.heap.size (w8.heap.size+1):=Yg ▸ aib.new w8 160 p 82;have Rq:Below w8.heap.size w8 u8:=Yg ▸ ((akl _ _).alloc (nr _) _).alloc (by simp) _;have Iw:=Iw.below Rq;have hb8:=hb8.trans (Rq.mono hb8.size);have ahX:=ahX.below Rq;rw[Yg];clear Yg Rq;obtain⟨w9,bI,tZ,aN⟩:=Iw.put Tryz.underlying117 Tryz.underlying9 mY (.func (.func 129) #[] #[.pointer (some ⟨w8.heap.size,0,none⟩),.pointer (some ⟨w8.heap.size+1,0,none⟩)]) (by first|rfl|simp);have ru:(Instr.mapUpdate 117 (.map (some w.heap.size)) (.string ⟨#[112,97,114,116]⟩) (.func (.func 129) #[] #[.pointer (some ⟨w8.heap.size,0,none⟩),.pointer (some ⟨w8.heap.size+1,0,none⟩)])).run Tryz.prog u8= .ok () w9:=bI;have aY:Below w.heap.size w w9:=hb8.grown aN hb8.size (fun k e=>by cases e;exact nr _);clear bI;have ahX:=ahX.grown aN Iw.isMap;have aie:=aie.grown aN Iw.isMap;go_wp2_with fail
 refine(qJ w9 p 83).mono ?_;rintro e w'' ⟨rfl,rfl⟩;obtain⟨u9,Yz⟩:∃u,((w9.alloc (.cells #[.pointer (some ⟨p,0,none⟩)] 111)).alloc (.cells #[.func (.func 83) #[.pointer (some ⟨p,0,none⟩)] #[]] 160))=u:=⟨_,rfl⟩
 have ah8:aib u9 160 p 83 w9.heap.size (w9.heap.size+1):=Yz ▸ aib.new w9 160 p 83;have MF:Below w9.heap.size w9 u9:=Yz ▸ ((akl _ _).alloc (nr _) _).alloc (by simp) _;have tZ:=tZ.below MF;have aY:=aY.trans (MF.mono aY.size);have ahX:=ahX.below MF;have aie:=aie.below MF;rw[Yz];clear Yz MF;obtain⟨w10,GN,Dx,vW⟩:=tZ.put Tryz.underlying117 Tryz.underlying9 jd (.func (.func 129) #[] #[.pointer (some ⟨w9.heap.size,0,none⟩),.pointer (some ⟨w9.heap.size+1,0,none⟩)]) (by first|rfl|simp);have hq10:(Instr.mapUpdate 117 (.map (some w.heap.size)) (.string ⟨#[97,110,99,104,111,114]⟩) (.func (.func 129) #[] #[.pointer (some ⟨w9.heap.size,0,none⟩),.pointer (some ⟨w9.heap.size+1,0,none⟩)])).run Tryz.prog u9= .ok () w10:=GN;have lL:Below w.heap.size w w10:=aY.grown vW aY.size (fun k e=>by cases e;exact nr _);clear GN;have ahX:=ahX.grown vW tZ.isMap;have aie:=aie.grown vW tZ.isMap;have ah8:=ah8.grown vW tZ.isMap;go_wp2_with fail
 refine(qJ w10 p 84).mono ?_;rintro e w'' ⟨rfl,rfl⟩;obtain⟨u10,Qg⟩:∃u,((w10.alloc (.cells #[.pointer (some ⟨p,0,none⟩)] 111)).alloc (.cells #[.func (.func 84) #[.pointer (some ⟨p,0,none⟩)] #[]] 160))=u:=⟨_,rfl⟩
 have aio:aib u10 160 p 84 w10.heap.size (w10.heap.size+1):=Qg ▸ aib.new w10 160 p 84;have Ce:Below w10.heap.size w10 u10:=Qg ▸ ((akl _ _).alloc (nr _) _).alloc (by simp) _;have Dx:=Dx.below Ce;have lL:=lL.trans (Ce.mono lL.size);have ahX:=ahX.below Ce;have aie:=aie.below Ce;have ah8:=ah8.below Ce;rw[Qg];clear Qg Ce;obtain⟨fK,acy,Ai,J5⟩:=Dx.put Tryz.underlying117 Tryz.underlying9 kC (.func (.func 129) #[] #[.pointer (some ⟨w10.heap.size,0,none⟩),.pointer (some ⟨w10.heap.size+1,0,none⟩)]) (by first|rfl|simp);have hq11:(Instr.mapUpdate 117 (.map (some w.heap.size)) (.string ⟨#[100,101,108,116,97]⟩) (.func (.func 129) #[] #[.pointer (some ⟨w10.heap.size,0,none⟩),.pointer (some ⟨w10.heap.size+1,0,none⟩)])).run Tryz.prog u10= .ok () fK:=acy;have gy:Below w.heap.size w fK:=lL.grown J5 lL.size (fun k e=>by cases e;exact nr _);clear acy;have ahX:=ahX.grown J5 Dx.isMap;have aie:=aie.grown J5 Dx.isMap;have ah8:=ah8.grown J5 Dx.isMap;have aio:=aio.grown J5 Dx.isMap;go_wp2_with fail
 refine(qJ fK p 85).mono ?_;rintro e w'' ⟨rfl,rfl⟩;obtain⟨u11,PM⟩:∃u,((fK.alloc (.cells #[.pointer (some ⟨p,0,none⟩)] 111)).alloc (.cells #[.func (.func 85) #[.pointer (some ⟨p,0,none⟩)] #[]] 160))=u:=⟨_,rfl⟩
 have aiw:aib u11 160 p 85 fK.heap.size (fK.heap.size+1):=PM ▸ aib.new fK 160 p 85;have yB:Below fK.heap.size fK u11:=PM ▸ ((akl _ _).alloc (nr _) _).alloc (by simp) _;have Ai:=Ai.below yB;have gy:=gy.trans (yB.mono gy.size);have ahX:=ahX.below yB;have aie:=aie.below yB;have ah8:=ah8.below yB;have aio:=aio.below yB;rw[PM];clear PM yB;obtain⟨w12,aa7,Gu,FM⟩:=Ai.put Tryz.underlying117 Tryz.underlying9 kP (.func (.func 129) #[] #[.pointer (some ⟨fK.heap.size,0,none⟩),.pointer (some ⟨fK.heap.size+1,0,none⟩)]) (by first|rfl|simp);have hq12:(Instr.mapUpdate 117 (.map (some w.heap.size)) (.string ⟨#[104,105,110,116]⟩) (.func (.func 129) #[] #[.pointer (some ⟨fK.heap.size,0,none⟩),.pointer (some ⟨fK.heap.size+1,0,none⟩)])).run Tryz.prog u11= .ok () w12:=aa7;have Lm:Below w.heap.size w w12:=gy.grown FM gy.size (fun k e=>by cases e;exact nr _);clear aa7;have ahX:=ahX.grown FM Ai.isMap;have aie:=aie.grown FM Ai.isMap;have ah8:=ah8.grown FM Ai.isMap;have aio:=aio.grown FM Ai.isMap;have aiw:=aiw.grown FM Ai.isMap;obtain⟨oM,acC,FW,FC⟩:=Gu.put Tryz.underlying117 Tryz.underlying9 pq (.func (.func 86) #[.pointer (some ⟨p,0,none⟩)] #[]) (by first|rfl|simp);have agW:(Instr.mapUpdate 117 (.map (some w.heap.size)) (.string ⟨#[99,104,97,114]⟩) (.func (.func 86) #[.pointer (some ⟨p,0,none⟩)] #[])).run Tryz.prog w12= .ok () oM:=acC;have KG:Below w.heap.size w oM:=Lm.grown FC Lm.size (fun k e=>by cases e;exact nr _);clear acC;have ahX:=ahX.grown FC Gu.isMap;have aie:=aie.grown FC Gu.isMap;have ah8:=ah8.grown FC Gu.isMap;have aio:=aio.grown FC Gu.isMap;have aiw:=aiw.grown FC Gu.isMap;obtain⟨jP,abr,yu,F7⟩:=FW.put Tryz.underlying117 Tryz.underlying9 fH (.func (.func 87) #[.pointer (some ⟨p,0,none⟩)] #[]) (by first|rfl|simp);have agp:(Instr.mapUpdate 117 (.map (some w.heap.size)) (.string ⟨#[108,111,111,107,117,112]⟩) (.func (.func 87) #[.pointer (some ⟨p,0,none⟩)] #[])).run Tryz.prog oM= .ok () jP:=abr;have lS:Below w.heap.size w jP:=KG.grown F7 KG.size (fun k e=>by cases e;exact nr _);clear abr;have ahX:=ahX.grown F7 FW.isMap;have aie:=aie.grown F7 FW.isMap;have ah8:=ah8.grown F7 FW.isMap;have aio:=aio.grown F7 FW.isMap;have aiw:=aiw.grown F7 FW.isMap;go_wp2_with fail
 refine(Ns jP p 89).mono ?_;rintro e w'' ⟨rfl,rfl⟩;obtain⟨u14,QA⟩:∃u,((jP.alloc (.cells #[.pointer (some ⟨p,0,none⟩)] 111)).alloc (.cells #[.func (.func 89) #[.pointer (some ⟨p,0,none⟩)] #[]] 162))=u:=⟨_,rfl⟩
 have aiR:aib u14 162 p 89 jP.heap.size (jP.heap.size+1):=QA ▸ aib.new jP 162 p 89;have vT:Below jP.heap.size jP u14:=QA ▸ ((akl _ _).alloc (nr _) _).alloc (by simp) _;have yu:=yu.below vT;have lS:=lS.trans (vT.mono lS.size);have ahX:=ahX.below vT;have aie:=aie.below vT;have ah8:=ah8.below vT;have aio:=aio.below vT;have aiw:=aiw.below vT;rw[QA];clear QA vT;obtain⟨uF,aaq,DN,nI⟩:=yu.put Tryz.underlying117 Tryz.underlying9 dF (.func (.func 133) #[] #[.pointer (some ⟨jP.heap.size,0,none⟩),.pointer (some ⟨jP.heap.size+1,0,none⟩)]) (by first|rfl|simp);have ahq:(Instr.mapUpdate 117 (.map (some w.heap.size)) (.string ⟨#[114,117,108,101]⟩) (.func (.func 133) #[] #[.pointer (some ⟨jP.heap.size,0,none⟩),.pointer (some ⟨jP.heap.size+1,0,none⟩)])).run Tryz.prog u14= .ok () uF:=aaq;have pM:Below w.heap.size w uF:=lS.grown nI lS.size (fun k e=>by cases e;exact nr _);clear aaq;have ahX:=ahX.grown nI yu.isMap;have aie:=aie.grown nI yu.isMap;have ah8:=ah8.grown nI yu.isMap;have aio:=aio.grown nI yu.isMap;have aiw:=aiw.grown nI yu.isMap;have aiR:=aiR.grown nI yu.isMap;obtain⟨w16,aac,adX,Ef⟩:=DN.put Tryz.underlying117 Tryz.underlying9 iw (.func (.func 90) #[.pointer (some ⟨p,0,none⟩)] #[]) (by first|rfl|simp);have aht:(Instr.mapUpdate 117 (.map (some w.heap.size)) (.string ⟨#[102,101,97,116,117,114,101]⟩) (.func (.func 90) #[.pointer (some ⟨p,0,none⟩)] #[])).run Tryz.prog uF= .ok () w16:=aac;have hb16:Below w.heap.size w w16:=pM.grown Ef pM.size (fun k e=>by cases e;exact nr _);clear aac;have ahX:=ahX.grown Ef DN.isMap;have aie:=aie.grown Ef DN.isMap;have ah8:=ah8.grown Ef DN.isMap;have aio:=aio.grown Ef DN.isMap;have aiw:=aiw.grown Ef DN.isMap;have aiR:=aiR.grown Ef DN.isMap;go_wp2_with fail
 go_ret
 refine⟨_,_,_,_,_,_,_,_,_,_,_,_,_,_,rfl,nr _,⟨adX,rfl,rfl,rfl,rfl,rfl,rfl,rfl,rfl,ahX,rfl,aie,rfl,ah8,rfl,aio,rfl,aiw,rfl,rfl,rfl,aiR,rfl,?_⟩,hb16⟩;intro t nUnit nAxis nRegion nCvt nFunc nClass nGlyph nContour nPart nAnchor nDelta nHint nChar nLookup nRule nFeature;simp only[if_neg nUnit,if_neg nAxis,if_neg nRegion,if_neg nCvt,if_neg nFunc,if_neg nClass,if_neg nGlyph,if_neg nContour,if_neg nPart,if_neg nAnchor,if_neg nDelta,if_neg nHint,if_neg nChar,if_neg nLookup,if_neg nRule,if_neg nFeature]
theorem QF (w:World)(f:Fnt)(fc:List Value)(hT:Tabs w)(hG:nG<=w.heap.size)(hf:aim w (FT w) fc f)(hS:∀g∈f.ahO,g.points.length<=1000000000/\g.ends.length<=1000000000)(hL:(kw f).length<=1000000000):
  Calls Tryz.prog 20 #[.agg fc.toArray] w fun e w'=>e= .returned (.string ⟨(kw f).toArray⟩)/\Below w.heap.size w w':=by
 obtain⟨A1,c1,A2,c2,A3,c3,A4,c4,A5,c5,A6,c6,A7,c7,A8,c8,rfl,r0,s1,s2,s3,s4,s5,s6,s7,s8⟩:=hf;exact FB w f A1 A2 A3 A4 A5 A6 A7 A8 c1 c2 c3 c4 c5 c6 c7 c8 hT hG r0 s1 s2 s3 s4 s5 s6 s7 s8 hS hL
end
section
open Go.RowKit Go.Shelf Go.Sort
def BH:Fnt:=⟨1000,[⟨[46,110,111,116,100,101,102],500,false,[],[],[],[],[],[]⟩],[],[⟨1,false,[⟨[],[[0]],[],[0],[],0⟩]⟩],[],[],[],[],[]⟩
def Jo:Fnt:=⟨16,[],[],[],[],[],[],[[⟨1,5⟩,⟨2,0⟩]],[]⟩
theorem abU:ag 1000=[49,48,48,48]:=by simp[ag,Lib.itoa,Lib.decDigits]
theorem adc:ag 500=[53,48,48]:=by simp[ag,Lib.itoa,Lib.decDigits]
theorem aex:ag 16=[49,54]:=by simp[ag,Lib.itoa,Lib.decDigits]
theorem it5:ag 5=[53]:=by simp[ag,Lib.itoa,Lib.decDigits]
theorem Ox:kw BH=[117,110,105,116,32,49,48,48,48,10,103,108,121,112,104,32,46,110,111,116,100,101,102,32,53,48,48,10,108,111,111,107,117,112,32,115,105,110,103,108,101,10,114,117,108,101,32,47,32,46,110,111,116,100,101,102,32,47,32,62,32,46,110,111,116,100,101,102,10]:=by simp[kw,BH,au,fC,dO,eQ,dJ,mP,yj,bJ,setW,bV,outW,abU,adc];decide
theorem OO:kw Jo=[117,110,105,116,32,49,54,10,102,117,110,99,32,112,117,115,104,58,53,32,112,111,112,10]:=by simp[kw,Jo,au,fC,gG,dw,aex,it5];decide
def xA (w:World)(l:List Obj):World:=l.foldl World.alloc w
theorem Aa (l:List Obj):∀w:World,Below w.heap.size w (xA w l):=by
 induction l with
 |nil=>intro w;exact akl _ _
 |cons o l ih=>intro w;exact((akl _ _).alloc (nr _) o).trans ((ih (w.alloc o)).mono (by simp))
theorem iQ (w:World)(l:List Obj)(k:Nat):(xA w l).heap[w.heap.size+k]? =l[k]? :=by
 induction l generalizing w k with
 |nil=>simp[xA]
 |cons o l ih=>
  show(xA (w.alloc o) l).heap[w.heap.size+k]? =_;cases k with
  |zero=>rw[(Aa l (w.alloc o)).block _ (by simp)];exact heap_alloc_new w o
  |succ k=>have:=ih (w.alloc o) k;rw[World.size_alloc] at this;rw[show w.heap.size+(k+1)=w.heap.size+1+k by omega,this];rfl
theorem Sl.lit {α:Type}{R:Rel α}{w:World}{b:Nat}{t:TypeId}{cells:Array Value}{size:Nat}{xs:List α}(hb:Bk w b t cells)(h1:t≠5)(h2:t≠130)(hf:Fl R size w (FT w) cells.toList xs):Sl R size w (FT w) (some ⟨b,0,none⟩) xs:=⟨cells.toList,hf,fun _=>⟨b,0,rfl,EL hb h1 h2,fun j u hu=>by rw[ak3,hb.cell];simpa using hu⟩⟩
theorem Rz:I64 0:=I64.small (by decide) (by decide)
theorem Qp (w:World)(hT:Tabs w)(hG:nG<=w.heap.size):Calls Tryz.prog 18 #[] w fun e w'=>e= .returned (.bool true)/\Below w.heap.size w w':=by
 go_enter Tryz.func18,Tryz.ntmps18
 go_wp2_with fail
 change Calls _ _ _ (xA w [.cells #[.string ⟨#[46,110,111,116,100,101,102]⟩,.int .i64 500,.bool false,.slice none 0 0,.slice none 0 0,.slice none 0 0,.slice none 0 0,.slice none 0 0,.slice none 0 0] 59,.cells #[.int .i64 0] 3,.cells #[.slice (some ⟨w.heap.size+1,0,none⟩) 1 1] 22,.cells #[.int .i64 0] 3,.cells #[.slice none 0 0,.slice (some ⟨w.heap.size+2,0,none⟩) 1 1,.slice none 0 0,.slice (some ⟨w.heap.size+3,0,none⟩) 1 1,.slice none 0 0,.int .i64 0] 76,.cells #[.int .i64 1,.bool false,.slice (some ⟨w.heap.size+4,0,none⟩) 1 1] 72,.cells #[.int .i64 1000,.slice (some ⟨w.heap.size,0,none⟩) 1 1,.slice none 0 0,.slice (some ⟨w.heap.size+5,0,none⟩) 1 1,.slice none 0 0,.slice none 0 0,.slice none 0 0,.slice none 0 0,.slice none 0 0] 32,.cells #[.int .i64 1,.int .i64 5,.int .i64 2,.int .i64 0] 61,.cells #[.slice (some ⟨w.heap.size+7,0,none⟩) 2 2] 57,.cells #[.int .i64 16,.slice none 0 0,.slice none 0 0,.slice none 0 0,.slice none 0 0,.slice none 0 0,.slice none 0 0,.slice (some ⟨w.heap.size+8,0,none⟩) 1 1,.slice none 0 0] 32]) _;obtain⟨W,hW⟩:∃W,xA w [.cells #[.string ⟨#[46,110,111,116,100,101,102]⟩,.int .i64 500,.bool false,.slice none 0 0,.slice none 0 0,.slice none 0 0,.slice none 0 0,.slice none 0 0,.slice none 0 0] 59,.cells #[.int .i64 0] 3,.cells #[.slice (some ⟨w.heap.size+1,0,none⟩) 1 1] 22,.cells #[.int .i64 0] 3,.cells #[.slice none 0 0,.slice (some ⟨w.heap.size+2,0,none⟩) 1 1,.slice none 0 0,.slice (some ⟨w.heap.size+3,0,none⟩) 1 1,.slice none 0 0,.int .i64 0] 76,.cells #[.int .i64 1,.bool false,.slice (some ⟨w.heap.size+4,0,none⟩) 1 1] 72,.cells #[.int .i64 1000,.slice (some ⟨w.heap.size,0,none⟩) 1 1,.slice none 0 0,.slice (some ⟨w.heap.size+5,0,none⟩) 1 1,.slice none 0 0,.slice none 0 0,.slice none 0 0,.slice none 0 0,.slice none 0 0] 32,.cells #[.int .i64 1,.int .i64 5,.int .i64 2,.int .i64 0] 61,.cells #[.slice (some ⟨w.heap.size+7,0,none⟩) 2 2] 57,.cells #[.int .i64 16,.slice none 0 0,.slice none 0 0,.slice none 0 0,.slice none 0 0,.slice none 0 0,.slice none 0 0,.slice (some ⟨w.heap.size+8,0,none⟩) 1 1,.slice none 0 0] 32]=W:=⟨_,rfl⟩
 rw[hW];have hbW:Below w.heap.size w W:=by rw[<-hW];exact Aa _ _
 have K0:Bk W (w.heap.size+0) 59 #[.string ⟨#[46,110,111,116,100,101,102]⟩,.int .i64 500,.bool false,.slice none 0 0,.slice none 0 0,.slice none 0 0,.slice none 0 0,.slice none 0 0,.slice none 0 0]:=by rw[<-hW];exact iQ w _ 0
 have K1:Bk W (w.heap.size+1) 3 #[.int .i64 0]:=by rw[<-hW];exact iQ w _ 1
 have K2:Bk W (w.heap.size+2) 22 #[.slice (some ⟨w.heap.size+1,0,none⟩) 1 1]:=by rw[<-hW];exact iQ w _ 2
 have K3:Bk W (w.heap.size+3) 3 #[.int .i64 0]:=by rw[<-hW];exact iQ w _ 3
 have K4:Bk W (w.heap.size+4) 76 #[.slice none 0 0,.slice (some ⟨w.heap.size+2,0,none⟩) 1 1,.slice none 0 0,.slice (some ⟨w.heap.size+3,0,none⟩) 1 1,.slice none 0 0,.int .i64 0]:=by rw[<-hW];exact iQ w _ 4
 have K5:Bk W (w.heap.size+5) 72 #[.int .i64 1,.bool false,.slice (some ⟨w.heap.size+4,0,none⟩) 1 1]:=by rw[<-hW];exact iQ w _ 5
 have K6:Bk W (w.heap.size+6) 32 #[.int .i64 1000,.slice (some ⟨w.heap.size,0,none⟩) 1 1,.slice none 0 0,.slice (some ⟨w.heap.size+5,0,none⟩) 1 1,.slice none 0 0,.slice none 0 0,.slice none 0 0,.slice none 0 0,.slice none 0 0]:=by rw[<-hW];exact iQ w _ 6
 have K7:Bk W (w.heap.size+7) 61 #[.int .i64 1,.int .i64 5,.int .i64 2,.int .i64 0]:=by rw[<-hW];exact iQ w _ 7
 have K8:Bk W (w.heap.size+8) 57 #[.slice (some ⟨w.heap.size+7,0,none⟩) 2 2]:=by rw[<-hW];exact iQ w _ 8
 have K9:Bk W (w.heap.size+9) 32 #[.int .i64 16,.slice none 0 0,.slice none 0 0,.slice none 0 0,.slice none 0 0,.slice none 0 0,.slice none 0 0,.slice (some ⟨w.heap.size+8,0,none⟩) 1 1,.slice none 0 0]:=by rw[<-hW];exact iQ w _ 9
 have K0':Bk W w.heap.size 59 #[.string ⟨#[46,110,111,116,100,101,102]⟩,.int .i64 500,.bool false,.slice none 0 0,.slice none 0 0,.slice none 0 0,.slice none 0 0,.slice none 0 0,.slice none 0 0]:=K0;clear hW;have z0:=hbW.size;have hTW:=hT.all hbW;have hGW:nG<=W.heap.size:=nt hG z0;have S1:Sl ahW 9 W (FT W) (some ⟨w.heap.size,0,none⟩) BH.ahO:=Sl.lit K0' (by decide) (by decide) (Fl.one ⟨none,0,none,0,none,0,none,0,none,0,none,0,rfl,I64.small (by decide) (by decide),Sl.nil,Sl.nil,Sl.nil,Sl.nil,Sl.nil,Sl.nil⟩ rfl);have Si1:Sl ahT 1 W (FT W) (some ⟨w.heap.size+1,0,none⟩) [0]:=Sl.lit K1 (by decide) (by decide) (Fl.one ⟨rfl,Rz⟩ rfl);have Si2:Sl ahV 1 W (FT W) (some ⟨w.heap.size+2,0,none⟩) [[0]]:=Sl.lit K2 (by decide) (by decide) (Fl.one ⟨_,_,rfl,Si1⟩ rfl);have Si3:Sl ahT 1 W (FT W) (some ⟨w.heap.size+3,0,none⟩) [0]:=Sl.lit K3 (by decide) (by decide) (Fl.one ⟨rfl,Rz⟩ rfl);have Si4:Sl aig 6 W (FT W) (some ⟨w.heap.size+4,0,none⟩) [⟨[],[[0]],[],[0],[],0⟩]:=Sl.lit K4 (by decide) (by decide) (Fl.one ⟨none,0,_,_,none,0,_,_,none,0,rfl,Rz,Sl.nil,Si2,Sl.nil,Si3,Sl.nil⟩ rfl);have S3:Sl ah1 3 W (FT W) (some ⟨w.heap.size+5,0,none⟩) BH.ahP:=Sl.lit K5 (by decide) (by decide) (Fl.one ⟨_,_,rfl,I64.small (by decide) (by decide),Si4⟩ rfl);have aaC:∀g∈BH.ahO,g.points.length<=1000000000/\g.ends.length<=1000000000:=by decide
 have hf1:=FB W BH (some ⟨w.heap.size,0,none⟩) none (some ⟨w.heap.size+5,0,none⟩) none none none none none 1 0 1 0 0 0 0 0 hTW hGW (I64.small (by decide) (by decide)) S1 Sl.nil S3 Sl.nil Sl.nil Sl.nil Sl.nil Sl.nil aaC (by rw[Ox];decide);rw[Ox] at hf1;refine(show Calls _ _ _ _ _ from hf1).mono ?_;rintro e w1 ⟨rfl,hb1⟩;have Gx:=bt hbW hb1;have hT1:=hT.all Gx;have J7:=K7.below hb1;have J8:=K8.below hb1;have J9:=K9.below hb1;have z1:=hb1.size;have Sj7:Sl ah5 2 w1 (FT w1) (some ⟨w.heap.size+7,0,none⟩) [⟨1,5⟩,⟨2,0⟩]:=Sl.lit J7 (by decide) (by decide) ((Fl.one (R:=ah5) ⟨rfl,I64.small (by decide) (by decide),I64.small (by decide) (by decide)⟩ rfl).append (Fl.one ⟨rfl,I64.small (by decide) (by decide),Rz⟩ rfl));have Sj8:Sl aih 1 w1 (FT w1) (some ⟨w.heap.size+8,0,none⟩) Jo.funcs:=Sl.lit J8 (by decide) (by decide) (Fl.one ⟨_,_,rfl,Sj7⟩ rfl);have hf2:=FB w1 Jo none none none none none none (some ⟨w.heap.size+8,0,none⟩) none 0 0 0 0 0 0 1 0 hT1 (nt hGW z1) (I64.small (by decide) (by decide)) Sl.nil Sl.nil Sl.nil Sl.nil Sl.nil Sl.nil Sj8 Sl.nil (by decide) (by rw[OO];decide);rw[OO] at hf2;have Hf2:=hd0 hf2;have j0:w1.cell? ⟨w.heap.size+9,0,none⟩=some (.int .i64 16):=J9.cell 0;have j1:w1.cell? ⟨w.heap.size+9,1,none⟩=some (.slice none 0 0):=J9.cell 1;have j2:w1.cell? ⟨w.heap.size+9,2,none⟩=some (.slice none 0 0):=J9.cell 2;have j3:w1.cell? ⟨w.heap.size+9,3,none⟩=some (.slice none 0 0):=J9.cell 3;have j4:w1.cell? ⟨w.heap.size+9,4,none⟩=some (.slice none 0 0):=J9.cell 4;have j5:w1.cell? ⟨w.heap.size+9,5,none⟩=some (.slice none 0 0):=J9.cell 5;have j6:w1.cell? ⟨w.heap.size+9,6,none⟩=some (.slice none 0 0):=J9.cell 6;have j7:w1.cell? ⟨w.heap.size+9,7,none⟩=some (.slice (some ⟨w.heap.size+8,0,none⟩) 1 1):=J9.cell 7;have j8:w1.cell? ⟨w.heap.size+9,8,none⟩=some (.slice none 0 0):=J9.cell 8;have Ye:kL 39=[115,105,122,101]:=by decide
 have hop0:kL 0=[63]:=by decide
 have XZ:kL 40=[63]:=by decide
 clear hf2 hf1 S1 Si1 Si2 Si3 Si4 S3 aaC Sj7 Sj8 J7 J8 J9 K0 K0' K1 K2 K3 K4 K5 K6 K7 K8 K9;have adp:Hid (∀w,Tabs w->Calls Tryz.prog 37 #[.int .i64 39] w fun e w'=>e= .returned (.string ⟨#[115,105,122,101]⟩)/\w=w'):=fun w h=>by have:=Jr w 39 h;rw[Ye] at this;exact this
 have aeo:Hid (∀w,Tabs w->Calls Tryz.prog 37 #[.int .i64 0] w fun e w'=>e= .returned (.string ⟨#[63]⟩)/\w=w'):=fun w h=>by have:=Jr w 0 h;rw[hop0] at this;exact this
 have acF:Hid (∀w,Tabs w->Calls Tryz.prog 37 #[.int .i64 40] w fun e w'=>e= .returned (.string ⟨#[63]⟩)/\w=w'):=fun w h=>by have:=Jr w 40 h;rw[XZ] at this;exact this
 clear Ye hop0 XZ;go_wp2_with fail
 refine(show Calls _ _ _ _ _ from Hf2.out).mono ?_;rintro e w2 ⟨rfl,hb2⟩;have hbw2:=bt Gx hb2;have hT2:=hT.all hbw2;have aam:True:=trivial;have tk0:True:=trivial;have aae:True:=trivial;go_wp2_with (first
  |(go_at_call 37;have _t:=aam;refine(adp.out _ hT2).mono ?_;rintro e w' ⟨rfl,rfl⟩;clear _t aam)
  |(go_at_call 37;have _t:=tk0;refine(aeo.out _ hT2).mono ?_;rintro e w' ⟨rfl,rfl⟩;clear _t tk0)
  |(go_at_call 37;have _t:=aae;refine(acF.out _ hT2).mono ?_;rintro e w' ⟨rfl,rfl⟩;clear _t aae))
 go_ret
 exact⟨rfl,hbw2⟩
end
section
open Go.RowKit
attribute [-go_sem] Builtin.append_
theorem UQ (w:World)(C rb p:Nat)(err:Int)(v0 v1 v2:Value)(A:Option Addr)(n c:Nat)(ws:List P3)(hC:Bk w C lK #[v0,v1,v2,.slice none 0 0,.slice none 0 0,.int .i64 0])(hR:Rdr w rb p err)
  (hw:RdT w dW A n 3 (dA ws)) (hl:∀x∈ws,x.2.2.length<=800000000) (hn:n<=1000000000):
  Calls Tryz.prog 138 #[.pointer (some ⟨rb,0,none⟩),.int .i64 4,.slice A n c,.pointer (some ⟨C,0,none⟩)] w fun e w'=>e= .returned (.tuple #[])/\aiQ w C rb p v0 v1 v2 ((af ws).foldl lQ err) [] ((af ws).map jI) 0 w':=by
 have hrc:rb≠C:=fun e=>by
  subst e;have:=(dR hR hC).1
  revert this
  decide
 have hlk:((af ws).map jI).length=n:=by rw[aks,iF];exact hw.rd.aiE
 have hcall:=hd0 (Xy w rb p err A n c ws hR hw hl hn);have HC:=hd0 hC;have hzc:C<w.heap.size:=hC.lt;generalize (af ws).foldl lQ err=yO at*
 generalize (af ws).map jI=cl at*
 have Hlk:=hd0 hlk;clear hC hR hw hl hlk;go_enter Tryz.func138,Tryz.ntmps138
 go_wp2_with fail
 refine hcall.out.mono ?_;rintro e w1 ⟨v,rfl,A5,c5,rfl,vH,nC,hg5⟩;have b1:Bk w1 C lK _:=Bk.kept2 hg5 HC.out (fun e=>hrc e.symm);have k1:w1.cell? ⟨C,4,none⟩=some (.slice none 0 0):=b1.cell 4;have y1:=b1.frozen 4;have zc:=b1.lt;have HO:Hid (aiQ w C rb p v0 v1 v2 yO [] cl 0 (w1.setCell ⟨C,4,none⟩ (.slice A5 n c5))):=by
  refine⟨⟨none,0,A5,c5,?_,World.ownsRow_nil _ _ _ _,?_⟩,Bk.far nC (by simpa using hrc) _,((Two.refl w rb C).grown hg5 (fun g e=>by cases e;exact .inr (.inl rfl))).grown (dC w1 ⟨C,4,none⟩ _) (fun g e=>by cases e;exact .inr (.inr rfl))⟩
  ·have:=b1.set 4 (.slice A5 n c5);rw[Hlk.out];exact this
  have:=qA vH b1 (by decide) 4 (.slice A5 n c5);rw[Hlk.out];exact this
 clear vH nC hg5 b1;go_wp2
 go_end0
 exact⟨rfl,HO.out⟩
theorem Vw (w:World)(C rb p:Nat)(err:Int)(v0 v1 v2:Value)(A:Option Addr)(n c:Nat)(ws:List P3)(hC:Bk w C lK #[v0,v1,v2,.slice none 0 0,.slice none 0 0,.int .i64 0])(hR:Rdr w rb p err)
  (hw:RdT w dW A n 3 (dA ws)) (hl:∀x∈ws,x.2.2.length<=800000000) {t:B} (ht:af ws=[t]):
  Calls Tryz.prog 138 #[.pointer (some ⟨rb,0,none⟩),.int .i64 6,.slice A n c,.pointer (some ⟨C,0,none⟩)] w fun e w'=>e= .returned (.tuple #[])/\aiQ w C rb p v0 v1 v2 (aG err t) [] [] (aA t) w':=by
 have hrc:rb≠C:=fun e=>by
  subst e;have:=(dR hR hC).1
  revert this
  decide
 obtain rfl:n=1:=by have:=iF ws;rw[ht] at this;have h2:=hw.rd.aiE;simp only[aF,ln] at this;omega
 obtain⟨b,o,x,y,z,rfl,hbl,hpz,q1,q2,q3⟩:=hw.rd.at3 (k:=0) (by omega);have hz:z=t:=by have:=congrArg (fun l=>l[0]?) ht;simp only[af,akO,hpz.out,Option.map_some] at this;simpa using this
 subst hz;have hzl:z.length<=800000000:=hl _ (akt hpz.out);have hcall:=hd0 (dK w rb p err z hR hzl);have HC:=hd0 hC;have hzc:C<w.heap.size:=hC.lt;have q3':w.cell? ⟨b,o+2,none⟩=some (.string ⟨z.toArray⟩):=by simpa using q3
 clear hC hR hw hl ht hpz q1 q2 hzl;go_enter Tryz.func138,Tryz.ntmps138
 go_wp2_with fail
 refine hcall.out.mono ?_;rintro e w1 ⟨rfl,nC,hg5⟩;have b1:Bk w1 C lK _:=Bk.kept2 hg5 HC.out (fun e=>hrc e.symm);have k1:w1.cell? ⟨C,5,none⟩=some (.int .i64 0):=b1.cell 5;have y1:=b1.frozen 5;have zc:=b1.lt;have HO:Hid (aiQ w C rb p v0 v1 v2 (aG err z) [] [] (aA z) (w1.setCell ⟨C,5,none⟩ (.int .i64 (aA z)))):=⟨⟨none,0,none,0,b1.set 5 _,World.ownsRow_nil _ _ _ _,World.ownsRow_nil _ _ _ _⟩,Bk.far nC (by simpa using hrc) _,((Two.refl w rb C).grown hg5 (fun g e=>by cases e;exact .inr (.inl rfl))).grown (dC w1 ⟨C,5,none⟩ _) (fun g e=>by cases e;exact .inr (.inr rfl))⟩
 clear nC hg5 b1;go_wp2
 go_end0
 exact⟨rfl,HO.out⟩
theorem Xr (w:World)(C rb p:Nat)(kind err:Int)(v0 v1 v2:Value)(A:Option Addr)(n c:Nat)(hC:Bk w C lK #[v0,v1,v2,.slice none 0 0,.slice none 0 0,.int .i64 0])(hR:Rdr w rb p err)(hk:kind≠1/\kind≠2/\kind≠3/\kind≠5/\kind≠4/\kind≠6):
  Calls Tryz.prog 138 #[.pointer (some ⟨rb,0,none⟩),.int .i64 kind,.slice A n c,.pointer (some ⟨C,0,none⟩)] w fun e w'=>e= .returned (.tuple #[])/\aiQ w C rb p v0 v1 v2 err [] [] 0 w':=by
 obtain⟨h1,h2,h3,h5,h4,h6⟩:=hk;have e1:(kind==1)=false:=by simpa using h1
 have e2:(kind==2)=false:=by simpa using h2
 have e3:(kind==3)=false:=by simpa using h3
 have e4:(kind==4)=false:=by simpa using h4
 have e5:(kind==5)=false:=by simpa using h5
 have e6:(kind==6)=false:=by simpa using h6
 have HO:Hid (aiQ w C rb p v0 v1 v2 err [] [] 0 w):=⟨⟨none,0,none,0,hC,World.ownsRow_nil _ _ _ _,World.ownsRow_nil _ _ _ _⟩,hR,Two.refl _ _ _⟩
 clear hC hR h1 h2 h3 h4 h5 h6;go_enter Tryz.func138,Tryz.ntmps138
 go_wp2
 go_end0
 exact⟨rfl,HO.out⟩
end
section
open Go.RowKit
attribute [-go_sem] Builtin.append_
def uN (l:List Int):Int->Option Value:=fun x=>if x∈l then some (.int .i64 (l.idxOf x:Nat)) else none
theorem Zx:uN []=fun _=>none:=by funext x;simp[uN]
theorem WR (l:List Int)(y:Int)(h:y ∉ l):uN (l++[y])=fun x=>if x=y then some (.int .i64 (l.length:Nat)) else uN l x:=by
 funext x
 unfold uN;by_cases hxy:x=y
 ·subst hxy;rw[if_pos (by simp),if_pos rfl,List.idxOf_append,if_neg h];simp
 rw[if_neg hxy];by_cases hx:x∈l
 ·rw[if_pos (by simp[hx]),if_pos hx,List.idxOf_append,if_pos hx]
 rw[if_neg (by simp[hx,hxy]),if_neg hx]
theorem Zj:(Tryz.prog.info? 3).map (fun i=>(i.zero,i.size,i.bytes))=some (some (.int .i64 0),1,8):=by kernel_rfl
theorem EO {l:List Int}{k:Nat}{x:Int}(h:l[k]? =some x):l.take (k+1)=l.take k++[x]:=by rw[ak2,h];rfl
theorem Jp (w:World):(zeroValue 3).run Tryz.prog w= .ok (.int .i64 0) w:=by kernel_rfl
theorem abV (n:Int)(w:World):(Instr.makeMap 245 (some (.int .i64 n))).run Tryz.prog w= .ok (.map (some w.heap.size)) (w.alloc (.map #[] 0)):=by simp[Instr.makeMap,run_underlying Tryz.underlying245,asInt,Result.andThen,newObj,go_sem];rfl
def aiU (w:World)(r:Except Int (List Int))(e:Ending)(w':World):Prop:=
 Below w.heap.size w w'/\match r with
  | .error c=>e= .returned (.tuple #[.slice none 0 0,.int .i64 c])
  | .ok o=>∃A' c',e= .returned (.tuple #[.slice A' o.length c',.int .i64 0])/\w'.ownsRow w.heap.size 3 1 (.slice A' o.length c') o.length (aW o)
def zI (l nm:List Int)(g:Int):Int:=nm.getD (l.idxOf g) 0
theorem QE {w:World}{base M n c:Nat}{A:Option Addr}{xs:List Value}{f:Int->Option Value}(h:ah0 Ha w M f)(ho:w.ownsRow base 3 1 (.slice A n c) n xs):some M≠(Value.slice A n c).ownBlock:=fun e=>by
 obtain⟨cur,hb⟩:=aV ho e.symm;exact h.aiP hb
theorem QX (w:World)(A1 A2 A3:Option Addr)(n1 n2 n3 c1 c2 c3:Nat)(l st nm:List Int)(hst:st=setOf l)(h1:Rd w w.heap.size A1 n1 1 (aW l))(h2:Rd w w.heap.size A2 n2 1 (aW st))(h3:Rd w w.heap.size A3 n3 1 (aW nm))(k1:n1<=1000000000)(k2:n2<=1000000000)(k3:n3<=1000000000):
  Calls Tryz.prog 139 #[.slice A1 n1 c1,.slice A2 n2 c2,.slice A3 n3 c3] w (aiU w (dZ l nm)):=by
 have l1:=hd0 h1.ajr;have l2:=hd0 h2.ajr;have l3:=hd0 h3.ajr;have R1:=hd0 h1;have R2:=hd0 h2;have R3:=hd0 h3;have HST:=hd0 hst;obtain⟨i0,hi,hz0,hz1,hz2⟩:=info_parts Zj;have hmk:=abV n1;clear h1 h2 h3 hst;go_enter Tryz.func139,Tryz.ntmps139
 go_wp2_with fail
 go_loopw [21] (fun i wr=>∃k:Nat,k<=n1/\i= .int .i64 k/\ah0 Ha wr w.heap.size (uN (l.take k))/\(l.take k).Nodup/\Below w.heap.size w wr) (fun i _=>n1 - (intOf i).toNat)
 case atStart=>exact⟨0,nz _,rfl,by rw[List.take_zero,Zx];exact ah0.new Ha w,by simp,(akl _ _).alloc (nr _) _⟩
 case round=>
  obtain⟨k,hk,rfl,hm,hnd,hb⟩:=hrel;have zm:=hm.lt;by_cases hlt:k<n1
  ·obtain⟨b,o,x,rfl,hbb,hx,q1⟩:=R1.out.atI hlt;have q2:wr.cell? ⟨b,o+k,none⟩=some (.int .i64 x):=((aj hb).1 _ _ hbb).trans q1;have hlk:=hm.ai2 Tryz.underlying245 Tryz.underlying3 (Jp wr) x;have hlk2:(Instr.lookup 245 (.map (some w.heap.size)) (.int .i64 x) true).run Tryz.prog wr= .ok (.tuple #[(uN (l.take k) x).getD (.int .i64 0),.bool (uN (l.take k) x).isSome]) wr:=hlk;have hsn:=EO hx.out;by_cases hin:x∈l.take k
   ·have hp:uN (l.take k) x=some (.int .i64 ((l.take k).idxOf x:Nat)):=if_pos hin;rw[hp] at hlk2;simp only[Option.getD_some,Option.isSome_some] at hlk2;have HR:Hid (dZ l nm= .error 24):=by show _=_;unfold dZ;rw[if_pos];intro hnd2;have:(l.take (k+1)).Nodup:=hnd2.sublist (List.take_sublist _ _);rw[hsn,List.nodup_append] at this;exact this.2.2 x hin x (by simp) rfl
    have HB:=hd0 hb;clear hm hnd hb hlk hsn hin hp hx q1;go_wp2_with fail
    go_ret2
    refine⟨HB.out,?_⟩;rw[HR.out];rfl
   have hp:uN (l.take k) x=none:=if_neg hin;rw[hp] at hlk2;simp only[Option.getD_none,Option.isSome_none] at hlk2;obtain⟨w2,hput,hm2,hg2⟩:=hm.put Tryz.underlying245 Tryz.underlying3 x (.int .i64 (k:Nat)) hp;have YK:(Instr.mapUpdate 245 (.map (some w.heap.size)) (.int .i64 x) (.int .i64 (k:Nat))).run Tryz.prog wr= .ok () w2:=hput;have hlen:(l.take k).length=k:=by rw[akH,l1.out];omega
   have hf:=WR (l.take k) x hin;rw[hlen,<-hsn] at hf;have HM:Hid (ah0 Ha w2 w.heap.size (uN (l.take (k+1)))):=by show ah0 _ _ _ _;rw[hf];exact hm2
   have HN:Hid ((l.take (k+1)).Nodup):=by show List.Nodup _;rw[hsn,List.nodup_append];exact⟨hnd,by simp,fun a ha c hc e=>by simp only[akm] at hc;subst hc;subst e;exact hin ha⟩
   have HB:Hid (Below w.heap.size w w2):=hb.grown hg2 hb.size (fun g e=>by cases e;exact nr _);clear hm hnd hb hlk hsn hin hp hx q1 hput hm2 hg2 hlen hf;go_wp2_with fail
   go_roundw
   case rel=>exact⟨k+1,by omega,by simp,HM.out,HN.out,HB.out⟩
   case measure=>simp[intOf];omega
  obtain rfl:k=n1:=by omega
  rw[akE (by rw[l1.out];exact nr _)] at hm hnd;by_cases hne:n3=k
  ·subst hne;have HR:Hid (dZ l nm= .ok (st.map (zI l nm))):=by show _=_;unfold dZ;rw[if_neg (by simpa using hnd),if_neg (by rw[l1.out,l3.out];simp),HST.out];rfl
   have HM:=hd0 hm;have HB:=hd0 hb;have hsz:=hb.size;clear hm hnd hb;go_wp2_with (at_make;refine wpList_make_own _ rfl _ _ 22 rfl w.heap.size 3 i0 (.int .i64 0) 1 Tryz.underlying22 hi hz0 hz1 .i64 .i64 _ n2 rfl rfl rfl (by rw[hz2];omega) (by unfold maxLen;omega) (by omega) ?_;intro w0 hown hg0)
   have hm0:ah0 Ha w0 w.heap.size (uN l):=HM.out.grown hg0 (by simp);have hb0:Below w.heap.size w w0:=HB.out.grown hg0 HB.out.size (fun g e=>by cases e);have HM0:=hd0 hm0;have HB0:=hd0 hb0;have HO0:=hd0 hown;clear hm0 hb0 hown hg0 hsz;go_loopw [13,47] (fun v i w'=>∃k:Nat,k<=n2/\i= .int .i64 k/\∃A c,v= .slice A k c/\w'.ownsRow w.heap.size 3 1 (.slice A k c) k (aW ((st.take k).map (zI l nm)))/\ah0 Ha w' w.heap.size (uN l)/\Below w.heap.size w w') (fun _ i _=>n2 - (intOf i).toNat)
   case atStart=>exact⟨0,nz _,rfl,_,_,rfl,HO0.out,HM0.out,HB0.out⟩
   case round=>
    obtain⟨k,hk,rfl,A4,c4,rfl,ho,hm,hb⟩:=hrel;by_cases hlt:k<n2
    ·obtain⟨b,o,x,rfl,hbb,hx,q1⟩:=R2.out.atI hlt;have q2:wr.cell? ⟨b,o+k,none⟩=some (.int .i64 x):=((aj hb).1 _ _ hbb).trans q1;have hxl:x∈l:=by have:=akt hx.out;rw[HST.out] at this;exact(AC x l).1 this
     have hjl:l.idxOf x<n3:=by rw[<-l1.out];exact List.idxOf_lt_length_iff.2 hxl
     obtain⟨b3,o3,y,rfl,hb3,hy,q3⟩:=R3.out.atI hjl;have q4:wr.cell? ⟨b3,o3+l.idxOf x,none⟩=some (.int .i64 y):=((aj hb).1 _ _ hb3).trans q3;have hlk:=hm.look1 Tryz.underlying245 Tryz.underlying3 (Jp wr) x;have hlk2:(Instr.lookup 245 (.map (some w.heap.size)) (.int .i64 x) false).run Tryz.prog wr= .ok ((uN l x).getD (.int .i64 0)) wr:=hlk;have hp:uN l x=some (.int .i64 (l.idxOf x:Nat)):=if_pos hxl;rw[hp] at hlk2;simp only[Option.getD_some] at hlk2;have hzz:=aku hb3 hb.size;have hzy:=aku hbb hb.size;have hsn:Hid (aW ((st.take (k+1)).map (zI l nm))=aW ((st.take k).map (zI l nm))++[.int .i64 y]):=by
      show _=_;rw[EO hx.out,akY,BQ];have:zI l nm x=y:=by unfold zI;rw[List.getD_eq_getElem?_getD,hy.out];rfl
      rw[akv,ak9,this];rfl
     generalize l.idxOf x=j at*
     generalize aW ((st.take k).map (zI l nm))=xs at*
     have Hm:=hd0 hm;have Hb:=hd0 hb;have hs9:=hb.size;clear hx q1 hxl hy q3 hlk hp hm hb;go_wp2_with (at_builtin;refine lq qK rfl (.tmp 51) (.tmp 58) rfl wr _ rfl w.heap.size k c4 A4 xs #[.int .i64 y] rfl rfl rfl ho (by simp[Value.oneCell']) (by omega) (by omega) ?_;intro A5 c5 w2 ho2 hg3 _)
     go_roundw
     case rel=>exact⟨k+1,by omega,by simp,A5,c5,rfl,by rw[hsn.out];exact ho2,Hm.out.grown hg3 (QE Hm.out ho),Hb.out.grown hg3 Hb.out.size (fun g e=>(ho.lt g e).1)⟩
     case measure=>simp[intOf];omega
    obtain rfl:k=n2:=by omega
    rw[akE (by rw[l2.out];exact nr _)] at ho;have Hb:=hd0 hb;have Ho:=hd0 ho;clear hm hb ho;go_wp2_with fail
    go_ret2
    refine⟨Hb.out,?_⟩;rw[HR.out];have bz:(st.map (zI l nm)).length=k:=by rw[aks];exact l2.out
    show ∃A' c',_/\_;rw[bz];exact⟨A4,c4,rfl,Ho.out⟩
  have HR:Hid (dZ l nm= .error 22):=by show _=_;unfold dZ;rw[if_neg (by simpa using hnd),if_pos (by rw[l1.out,l3.out];exact hne)]
  have e1:((n3:Int)==(k:Int))=false:=by simp;omega
  have e2:((n3:Int) !=(k:Int))=true:=by simp;omega
  have HB:=hd0 hb;clear hm hnd hb hne;go_wp2_with fail
  go_ret2
  refine⟨HB.out,?_⟩;rw[HR.out];rfl
end
end Go.Proofs.YtkijckccfookeaaGreatDoor
