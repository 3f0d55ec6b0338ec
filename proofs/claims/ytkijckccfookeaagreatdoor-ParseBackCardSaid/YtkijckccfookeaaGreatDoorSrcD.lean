/- Lemmas. -/
import Derived.Test.YtkijckccfookeaaGreatDoorV22
import Derived.Deep.DeepCutAuto
set_option linter.unusedVariables false
set_option linter.unusedSimpArgs false
set_option maxRecDepth 100000
set_option maxHeartbeats 32000000
namespace Go.Proofs.YtkijckccfookeaaGreatDoor
open Go.RowKit
theorem drop_at {α:Type}{l:List α}{k:Nat}{x:α}(h:l[k]? =some x):l.drop k=x::l.drop (k+1):=by
 have hk:=(aqm.1 h).1;rw[List.drop_eq_getElem_cons hk];have:=aqn hk;rw[this] at h;injection h with h
 rw[h]
theorem WO {pts:List Pt}{fr:Nat}{e:Int}{es:List Int}(h:lW fr (e::es) pts.length):∃en:Nat,e=en/\fr<=en/\en<pts.length/\lW (en+1) es pts.length/\dL pts fr (e::es)=((pts.take (en+1)).drop fr)::dL pts (en+1) es:=by obtain⟨h1,h2,h3⟩:=h;refine⟨e.toNat,by omega,by omega,by omega,h3,?_⟩;rw[dL,if_neg (by omega)]
theorem YJ {pts:List Pt}{fr j:Nat}{x:Pt}(h:pts[j]? =some x)(hj:fr<=j):((pts.take (j+1)).drop fr).flatMap qQ=((pts.take j).drop fr).flatMap qQ++qQ x:=by
 have hl:=(aqm.1 h).1;rw[aq1,h,List.drop_append];have:(pts.take j).length=j:=by rw[aqH];omega
 rw[this,show fr - j=0 by omega];simp
theorem UU {x:Pt}(h:N9 x.x/\N9 x.y):(qQ x).length<=300:=by
 have h1:=bV h.1;have h2:=bV h.2;simp only[qQ,dB,az,ay,ln];split
 ·simp only[ln];omega
 simp only[ay,ln];omega
theorem adr {c:List Pt}(h:∀x∈c,N9 x.x/\N9 x.y)(hl:c.length<=1000):(yh c).length<=300100:=by
 have h1:=ed c qQ 300 1000 (fun x hx=>UU (h x hx)) hl;have h2:iW.length<=20:=by decide
 simp only[yh,az,ay,ln];omega
theorem adf {pts:List Pt}{ends:List Int}(h:∀x∈pts,N9 x.x/\N9 x.y)(hl:pts.length<=1000)(he:ends.length<=1000)(fr:Nat):((dL pts fr ends).flatMap yh).length<=300100000:=by obtain⟨c1,c2⟩:=L6 pts ends fr;exact ed _ yh 300100 1000 (fun c hc=>adr (fun x hx=>h x ((c2 c hc).2 x hx)) (by have:=(c2 c hc).1;omega)) (by omega)
theorem UD {pts:List Pt}(h:∀x∈pts,N9 x.x/\N9 x.y)(hl:pts.length<=1000)(j n:Nat):(((pts.take j).drop n).flatMap qQ).length<=1000*300:=ed _ qQ 300 1000 (fun x hx=>UU (h x (List.mem_of_mem_take (List.mem_of_mem_drop hx)))) (by rw[aq0,aqH];omega)
theorem adW {gs:List anP}{p:Part}(h:N9 p.x/\N9 p.y)(hg:(iI gs p.anX).length<=100):(tq gs p).length<=400:=by
 have h1:=bV h.1;have h2:=bV h.2;have h3:pX.length<=10:=by decide
 simp only[tq,fU,dB,az,ay,ln];omega
theorem adc {a:an8}(h:1<=a.kind/\a.kind<=4/\N9 a.cls/\N9 a.x/\N9 a.y):(sZ a).length<=500:=by
 have h1:=bV h.2.2.1;have h2:=bV h.2.2.2.1;have h3:=bV h.2.2.2.2;have h4:=qH anchorNames 8 (by decide) (by decide) a.kind;have h5:kC.length<=10:=by decide
 simp only[sZ,dB,az,ay,ln];omega
theorem adh {d:Delta}(h:N9 d.region/\N9 d.point/\N9 d.x/\N9 d.y):(tC d).length<=500:=by
 have h1:=bV h.1;have h2:=bV h.2.1;have h3:=bV h.2.2.1;have h4:=bV h.2.2.2;have h5:nC.length<=10:=by decide
 simp only[tC,dB,az,ay,ln];omega
theorem agZ (i:Nat)(hi:i<4):anchorNames[i]? =some (pick anchorNames ((i:Int)+1)):=by obtain⟨s,e1,-⟩:=GL ⟨i,hi⟩;simp only at e1;rw[e1,pick,if_neg (by omega),show((i:Int)+1 - 1).toNat=i by omega,e1];rfl
theorem VX (w:World):Calls Tryz.prog 105 #[] w fun e w'=>e= .returned (.slice (some ⟨w.heap.size,0,none⟩) 4 4)/\w'=w.alloc (.cells (strs anchorNames).toArray 9):=by
 go_enter Tryz.func105,Tryz.ntmps105
 go_wp2_with fail
 go_ret
 exact⟨rfl,rfl⟩
theorem Uo {w w':World}(h:Below w.drew.heap.size w.drew w'):Below w.heap.size w w':=⟨h.os,h.tape,h.output,h.size,h.block⟩
theorem WX (w:World):Calls Tryz.prog 105 #[] w fun e w'=>∃nb,e= .returned (.slice (some ⟨nb,0,none⟩) 4 4)/\Below w.heap.size w w'/\∀(i:Nat) (s:B),anchorNames[i]? =some s->w'.cell? ⟨nb,i,none⟩=some (.string ⟨s.toArray⟩):=by refine(VX w).mono ?_;rintro e w' ⟨rfl,rfl⟩;exact⟨_,rfl,(aqk _ _).alloc (ag _) _,fun i s h=>((Bk.new w 9 (strs anchorNames).toArray).cell i).trans (by simpa using strs_get h)⟩
theorem X8 (w:World)(f:Fnt)(fc:List Value)(hf:an4 w (Lw w) fc f)(g:anP)(gc:List Value)(hgr:anS w (Lw w) gc g)(hk:OkG f.anL.length g)(hsz:g.points.length<=1000/\g.ends.length<=1000/\g.parts.length<=1000/\g.anchors.length<=1000/\g.deltas.length<=1000/\g.hint.length<=1000)(hnm:g.name.length<=100)(hgn:∀p∈g.parts,(iI f.anL p.anX).length<=100):
  Calls Tryz.prog 55 #[.agg fc.toArray,.agg gc.toArray] w fun e w'=>e= .returned (.string ⟨(lu f.anL g).toArray⟩)/\Below w.heap.size w w':=by
 have HF:=hd0 hf;obtain⟨A1,c1,A2,c2,A3,c3,A4,c4,A5,c5,A6,c6,A7,c7,A8,c8,rfl,-⟩:=hf;obtain⟨B3,d3,B4,d4,B5,d5,B6,d6,B7,d7,B8,d8,rfl,-,s3,s4,s5,s6,s7,s8⟩:=hgr;obtain⟨nm,adv,mk,pts,ends,parts,bQ,an1,hint⟩:=g;obtain⟨k1,k2,k3,k4,k5,k6,k7,k8⟩:=hk;simp only at hsz hnm hgn k1 k2 k3 k4 k5 k6 k7 k8 s3 s4 s5 s6 s7 s8 ⊢;obtain⟨z3,z4,z5,z6,z7,z8⟩:=hsz;have H3:=hd0 s3;have H4:=hd0 s4;have H5:=hd0 s5;have H6:=hd0 s6;have H7:=hd0 s7;have H8:=hd0 s8;have LC:=adf k3 z3 z4 0;have hgl:Hid (lu f.anL ⟨nm,adv,mk,pts,ends,parts,bQ,an1,hint⟩=[103,108,121,112,104,32]++nm++dB adv++(if mk then [32,109,97,114,107] else [])++[10]++(dL pts 0 ends).flatMap yh++parts.flatMap (tq f.anL)++bQ.flatMap sZ++an1.flatMap tC++[104,105,110,116]++hint.flatMap oV++[10]):=hd0 (by simp only[lu,gyS,hiS,aqy];rfl);have hd1:=hd0 (fun w'=>iy w' adv k2);have la:(dB adv).length<=101:=by have:=bV k2;rw[dB,ay];omega
 have LP:=ed parts (tq f.anL) 400 1000 (fun p hp=>adW (k5 p hp).2 (hgn p hp)) z5;have LA:=ed bQ sZ 500 1000 (fun a ha=>adc (k6 a ha)) z6;have LD:=ed an1 tC 500 1000 (fun d hd=>adh (k7 d hd)) z7;have LH:=ed hint oV 200 1000 (fun i hi=>Ux (k8 i hi).2.2) z8;have K3:=hd0 k3;have K4:=hd0 k4;have K5:=hd0 k5;have K6:=hd0 k6;have K7:=hd0 k7;have K8:=hd0 k8;have KG:=hd0 hgn;clear s3 s4 s5 s6 s7 s8 k1 k2 k3 k4 k5 k6 k7 k8 hgn;generalize dB adv=D0 at*
 go_enter Tryz.func55,Tryz.ntmps55
 go_wp2_with fail
 obtain⟨W0,hW0⟩:∃W0,(w.alloc (.cells #[.int .i64 f.unit,.slice A1 f.anL.length c1,.slice A2 f.chars.length c2,.slice A3 f.anM.length c3,.slice A4 f.features.length c4,.slice A5 f.anR.length c5,.slice A6 f.regions.length c6,.slice A7 f.funcs.length c7,.slice A8 f.cvt.length c8] 32)).alloc (.cells #[.string ⟨nm.toArray⟩,.int .i64 adv,.bool mk,.slice B3 pts.length d3,.slice B4 ends.length d4,.slice B5 parts.length d5,.slice B6 bQ.length d6,.slice B7 an1.length d7,.slice B8 hint.length d8] 59)=W0:=⟨_,rfl⟩
 rw[hW0];have HW:Hid (Below w.heap.size w W0):=by rw[<-hW0];exact hd0 (((aqk _ _).alloc (ag _) _).alloc (by simp) _)
 have HK:Hid (Bk W0 w.heap.size 32 #[.int .i64 f.unit,.slice A1 f.anL.length c1,.slice A2 f.chars.length c2,.slice A3 f.anM.length c3,.slice A4 f.features.length c4,.slice A5 f.anR.length c5,.slice A6 f.regions.length c6,.slice A7 f.funcs.length c7,.slice A8 f.cvt.length c8]):=by rw[<-hW0];exact hd0 ((Bk.new _ _ _).alloc _)
 have fC:Hid (Bk W0 (w.heap.size+1) 59 #[.string ⟨nm.toArray⟩,.int .i64 adv,.bool mk,.slice B3 pts.length d3,.slice B4 ends.length d4,.slice B5 parts.length d5,.slice B6 bQ.length d6,.slice B7 an1.length d7,.slice B8 hint.length d8]):=by rw[<-hW0];have:=Bk.new (w.alloc (.cells #[.int .i64 f.unit,.slice A1 f.anL.length c1,.slice A2 f.chars.length c2,.slice A3 f.anM.length c3,.slice A4 f.features.length c4,.slice A5 f.anR.length c5,.slice A6 f.regions.length c6,.slice A7 f.funcs.length c7,.slice A8 f.cvt.length c8] 32)) 59 #[.string ⟨nm.toArray⟩,.int .i64 adv,.bool mk,.slice B3 pts.length d3,.slice B4 ends.length d4,.slice B5 parts.length d5,.slice B6 bQ.length d6,.slice B7 an1.length d7,.slice B8 hint.length d8];rw[World.size_alloc] at this;exact hd0 this
 have z0:w.heap.size<W0.heap.size:=HK.out.lt;have z1:w.heap.size+1<W0.heap.size:=fC.out.lt;clear hW0;replace H3:=hd0 (H3.out.lw PtR.ok HW.out);replace H4:=hd0 (H4.out.lw anO.ok HW.out);replace H5:=hd0 (H5.out.lw aog.ok HW.out);replace H6:=hd0 (H6.out.lw an2.ok HW.out);replace H7:=hd0 (H7.out.lw an6.ok HW.out);replace H8:=hd0 (H8.out.lw an5.ok HW.out);replace HF:=hd0 (HF.out.lw HW.out);have y0:∀xw:WIn (fun v=>Below W0.heap.size W0 v),xw.w.cell? ⟨w.heap.size+1,0,none⟩=some (.string ⟨nm.toArray⟩):=ae ((fC.out.cell 0));have y1:∀xw:WIn (fun v=>Below W0.heap.size W0 v),xw.w.cell? ⟨w.heap.size+1,1,none⟩=some (.int .i64 adv):=ae ((fC.out.cell 1));have HD:=hd0 (aj (W:=W0) (fun w' _=>hd1.out w'));have rT1:∀w',(Op.stringOp .add ⟨#[103,108,121,112,104,32]⟩ ⟨nm.toArray⟩).run Tryz.prog w'= .ok (.string ⟨([103,108,121,112,104,32]++nm).toArray⟩) w':=au [103,108,121,112,104,32] nm (by simp only[ay,ln];omega);have lT1:([103,108,121,112,104,32]++nm).length<=6+nm.length:=ax _ _;generalize hT1:[103,108,121,112,104,32]++nm=T1 at*
 have HT1:=hd0 hT1.symm;clear hT1;have rT2:∀w',(Op.stringOp .add ⟨T1.toArray⟩ ⟨D0.toArray⟩).run Tryz.prog w'= .ok (.string ⟨(T1++D0).toArray⟩) w':=au T1 D0 (by omega);have lT2:(T1++D0).length<=T1.length+D0.length:=ax _ _;generalize hT2:T1++D0=T2 at*
 have HT2:=hd0 hT2.symm;clear hT2;go_wp2_with fail
 refine aW (fun v=>Below W0.heap.size W0 v) (by kernel_rfl) (by kernel_rfl) ((aqk W0.heap.size W0).drew) ?_;have aU:Nonempty (WIn (fun v=>Below W0.heap.size W0 v)):=⟨⟨_,((aqk W0.heap.size W0).drew)⟩⟩
 repeat(go_big_quiet_step (first|with_reducible exact HD.out _))
 refine wpQuiet_nil ?_;intro _ hw';obtain⟨xq,hw''⟩:=hw';subst hw'';have yM:Hid (Below W0.heap.size W0 xq.w):=hd0 xq.ok;generalize xq.w=wa at*
 clear y0 y1 HD aU rT1 rT2;have g2:wa.cell? ⟨w.heap.size+1,2,none⟩=some (.bool mk):=((af yM.out).1 _ _ z1).trans (fC.out.cell 2);obtain⟨M,hM⟩:∃M:B,(if mk then [32,109,97,114,107] else [])=M:=⟨_,rfl⟩
 have lM:M.length<=5:=by rw[<-hM];split<;>simp
 have rm:∀w',(Op.stringOp .add ⟨T2.toArray⟩ ⟨#[32,109,97,114,107]⟩).run Tryz.prog w'= .ok (.string ⟨(T2++[32,109,97,114,107]).toArray⟩) w':=au T2 [32,109,97,114,107] (by simp only[ay,ln];omega)
 go_upto_if 24 with fail
 go_cut [5,24] from 25 to 26 (fun v5 _ wx=>v5= .string ⟨(T2++M).toArray⟩/\Below W0.heap.size W0 wx)
 case first=>
  cases mk with
  |true=>
   have eM:M=[32,109,97,114,107]:=hM.symm;go_wp2_with fail
   go_meet
   exact⟨by rw[eM],yM.out⟩
  |false=>
   have eM:M=[]:=hM.symm;go_wp2_with fail
   go_meet
   exact⟨by rw[eM,aqR],yM.out⟩
 case rest=>
 obtain⟨rfl,hbc⟩:=hcut;obtain⟨wb,rfl⟩:∃x,x=wc:=⟨_,rfl⟩
 have XH:=hd0 hbc;rw[hM] at hgl;clear hbc hM rm g2;have rT3:∀w',(Op.stringOp .add ⟨T2.toArray⟩ ⟨M.toArray⟩).run Tryz.prog w'= .ok (.string ⟨(T2++M).toArray⟩) w':=au T2 M (by omega);have lT3:(T2++M).length<=T2.length+M.length:=ax _ _;generalize BP:T2++M=T3 at*
 have HT3:=hd0 BP.symm;clear BP;have rT4:∀w',(Op.stringOp .add ⟨T3.toArray⟩ ⟨#[10]⟩).run Tryz.prog w'= .ok (.string ⟨(T3++[10]).toArray⟩) w':=au T3 [10] (by simp only[ay,ln];omega);have lT4:(T3++[10]).length<=T3.length+1:=ax _ _;generalize hT4:T3++[10]=T4 at*
 have HT4:=hd0 hT4.symm;clear hT4;have Yu:∃CT,(dL pts 0 ends).flatMap yh=CT:=⟨_,rfl⟩
 obtain⟨CT,Yu⟩:=Yu;rw[Yu] at hgl LC;have HCT:=hd0 Yu;clear Yu;go_wp2_with fail
 go_loopw [5,6,7] (fun s fr i wr=>∃(k n:Nat) (D:B),k<=ends.length/\n<=2000/\i= .int .i64 k/\fr= .int .i64 n/\s= .string ⟨D.toArray⟩/\Hid (D++(dL pts n (ends.drop k)).flatMap yh=T4++CT/\lW n (ends.drop k) pts.length)/\Below W0.heap.size W0 wr) (fun _ _ i _=>ends.length - (intOf i).toNat)
 case atStart=>exact⟨0,0,T4,nz _,nz _,rfl,rfl,rfl,hd0 ⟨by rw[List.drop_zero,HCT.out],by rw[List.drop_zero];exact K4.out⟩,XH.out⟩
 case round=>
  obtain⟨wl,rfl⟩:∃x,x=wr:=⟨_,rfl⟩
  obtain⟨k,n,D,hk,hn2,rfl,rfl,rfl,hD,hb⟩:=hrel;have HX:=hd0 hb;have g4:wl.cell? ⟨w.heap.size+1,4,none⟩=some (.slice B4 ends.length d4):=((af HX.out).1 _ _ z1).trans (fC.out.cell 4);by_cases hlt:k<ends.length
  ·obtain⟨b,o,x,rfl,-,hx,q0,i0⟩:=(H4.out.lw anO.ok hb).int hlt;obtain⟨en,hen,hfr,hlen,hend,hcon⟩:=WO (pts:=pts) (fr:=n) (e:=x) (es:=ends.drop (k+1)) (by rw[<-drop_at hx.out];exact hD.out.2);subst hen;have hDk:Hid (D++yh ((pts.take (en+1)).drop n)++(dL pts (en+1) (ends.drop (k+1))).flatMap yh=T4++CT):=hd0 (by rw[<-hD.out.1,drop_at hx.out,hcon,aqD,aqy]);have lC:D.length<=T4.length+CT.length:=by have:=congrArg List.length hDk.out;simp only[az] at this;omega
   have Xt:=hd0 hend;have HI0:=hd0 i0;have zb:=World.block_lt_of_cell? _ _ q0;have Yd:=hd0 q0;clear hx hD hcon hend i0 q0 hb;have rT5:∀w',(Op.stringOp .add ⟨D.toArray⟩ ⟨#[99,111,110,116,111,117,114]⟩).run Tryz.prog w'= .ok (.string ⟨(D++[99,111,110,116,111,117,114]).toArray⟩) w':=au D [99,111,110,116,111,117,114] (by simp only[ay,ln];omega);have lT5:(D++[99,111,110,116,111,117,114]).length<=D.length+7:=ax _ _;generalize xC:D++[99,111,110,116,111,117,114]=T5 at*
   have BI:=hd0 xC.symm;clear xC;go_wp2_with fail
   go_loopw [5,8] (fun s i wr=>∃j:Nat,n<=j/\j<=en+1/\i= .int .i64 j/\s= .string ⟨(T5++((pts.take j).drop n).flatMap qQ).toArray⟩/\Below wl.heap.size wl wr) (fun _ i _=>en+1 - (intOf i).toNat)
   case atStart=>exact⟨n,ag _,by omega,rfl,by simp,aqk _ _⟩
   case round=>
    obtain⟨wi,rfl⟩:∃x,x=wr:=⟨_,rfl⟩
    obtain⟨j,hnj,hj,rfl,rfl,hb⟩:=hrel;have kN:Hid (Below wl.heap.size wl wi):=hd0 hb;have fQ:Hid (Below W0.heap.size W0 wi):=hd0 (HX.out.trans (hb.mono HX.out.size));clear g4;have g4:wi.cell? ⟨w.heap.size+1,4,none⟩=some (.slice (some ⟨b,o,none⟩) ends.length d4):=((af fQ.out).1 _ _ z1).trans (fC.out.cell 4);have g3:wi.cell? ⟨w.heap.size+1,3,none⟩=some (.slice B3 pts.length d3):=((af fQ.out).1 _ _ z1).trans (fC.out.cell 3);have q0:wi.cell? ⟨b,o+k,none⟩=some (.int .i64 en):=((af kN.out).1 _ _ zb).trans Yd.out;by_cases hltj:j<=en
    ·have hjp:j<pts.length:=by omega
     obtain⟨b3,o3,y,rfl,-,hy,u0,u1,u2,i0,i1⟩:=(H3.out.lw PtR.ok fQ.out).pt hjp;obtain⟨hy1,hy2⟩:=K3.out y (aqt hy.out);have sK:Hid (T5++((pts.take (j+1)).drop n).flatMap qQ=T5++((pts.take j).drop n).flatMap qQ++dB y.x++[44]++aN y.y++(if y.on then [] else [42])):=hd0 (by rw[YJ hy.out hnj];simp only[qQ,aqy]);have hf2:=UD K3.out z3 j n;have hs2:(T5++((pts.take j).drop n).flatMap qQ).length<=T5.length+(((pts.take j).drop n).flatMap qQ).length:=ax _ _;have la1:(dB y.x).length<=101:=by have:=bV hy1;rw[dB,ay];omega
     have la2:(aN y.y).length<=101:=by have:=bV hy2;omega
     have HA1:=hd0 (fun w'=>iy w' y.x hy1);have HA2:=hd0 (fun w'=>vK w' y.y hy2);have e1:decide ((j:Int)<=en)=true:=by simp;omega
     have e2:decide ((j:Int)<pts.length)=true:=by simp;omega
     clear hy hy1 hy2 i0 i1 hb;generalize T5++((pts.take j).drop n).flatMap qQ=S2 at*
     generalize dB y.x=DX at*
     generalize aN y.y=DY at*
     go_wp2_with fail
     obtain⟨W2,hW2⟩:∃W2,wi.alloc (.cells #[.int .i64 y.x,.int .i64 y.y,.bool y.on] 139)=W2:=⟨_,rfl⟩
     rw[hW2];have HW2:Hid (Below wl.heap.size wl W2):=by rw[<-hW2];exact hd0 (kN.out.alloc kN.out.size _)
     have hbk:Bk W2 wi.heap.size 139 #[.int .i64 y.x,.int .i64 y.y,.bool y.on]:=by rw[<-hW2];exact Bk.new _ _ _
     have eH:=hd0 hbk;have yu:=hbk.lt;clear hW2 e1 e2 u0 u1 u2 g3 g4 q0;have x0:∀xw:WIn (fun v=>Below W2.heap.size W2 v),xw.w.cell? ⟨wi.heap.size,0,none⟩=some (.int .i64 y.x):=ae (hbk.cell 0);have x1:∀xw:WIn (fun v=>Below W2.heap.size W2 v),xw.w.cell? ⟨wi.heap.size,1,none⟩=some (.int .i64 y.y):=ae (hbk.cell 1);clear hbk;have HB1:=hd0 (aj (W:=W2) (fun w' _=>HA1.out w'));have HB2:=hd0 (aj (W:=W2) (fun w' _=>HA2.out w'));have rT6:∀w',(Op.stringOp .add ⟨S2.toArray⟩ ⟨DX.toArray⟩).run Tryz.prog w'= .ok (.string ⟨(S2++DX).toArray⟩) w':=au S2 DX (by omega);have lT6:(S2++DX).length<=S2.length+DX.length:=ax _ _;generalize hT6:S2++DX=T6 at*
     have xe:=hd0 hT6.symm;clear hT6;have rT7:∀w',(Op.stringOp .add ⟨T6.toArray⟩ ⟨#[44]⟩).run Tryz.prog w'= .ok (.string ⟨(T6++[44]).toArray⟩) w':=au T6 [44] (by simp only[ay,ln];omega);have lT7:(T6++[44]).length<=T6.length+1:=ax _ _;generalize hT7:T6++[44]=T7 at*
     have xK:=hd0 hT7.symm;clear hT7;have rT8:∀w',(Op.stringOp .add ⟨T7.toArray⟩ ⟨DY.toArray⟩).run Tryz.prog w'= .ok (.string ⟨(T7++DY).toArray⟩) w':=au T7 DY (by omega);have lT8:(T7++DY).length<=T7.length+DY.length:=ax _ _;generalize hT8:T7++DY=T8 at*
     have Ba:=hd0 hT8.symm;clear hT8;refine aW (fun v=>Below W2.heap.size W2 v) (by kernel_rfl) (by kernel_rfl) ((aqk W2.heap.size W2).drew) ?_;have aU:Nonempty (WIn (fun v=>Below W2.heap.size W2 v)):=⟨⟨_,((aqk W2.heap.size W2).drew)⟩⟩
     repeat(go_big_quiet_step (first|with_reducible exact HB1.out _|with_reducible exact HB2.out _))
     refine wpQuiet_nil ?_;intro _ hw';obtain⟨xq,hw''⟩:=hw';subst hw'';have dY:Hid (Below wl.heap.size wl xq.w):=hd0 (HW2.out.trans (xq.ok.mono HW2.out.size));have u2:xq.w.cell? ⟨wi.heap.size,2,none⟩=some (.bool y.on):=((af xq.ok).1 _ _ yu).trans (eH.out.cell 2);generalize xq.w=wz at*
     clear x0 x1 HB1 HB2 aU rT6 rT7 rT8;by_cases hon:y.on=true
     ·have ES:=sK.out;rw[if_pos hon,aqR] at ES;rw[hon] at u2;have HON:=hd0 ES;clear sK ES hon;go_wp2_with fail
      go_roundw
      case rel=>exact⟨j+1,by omega,by omega,by simp,by rw[HON.out,Ba.out,xK.out,xe.out],dY.out⟩
      case measure=>simp[intOf];omega
     have hof:y.on=false:=by simpa using hon
     have ES:=sK.out;rw[if_neg hon] at ES;rw[hof] at u2;have HON:=hd0 ES;clear sK ES hon hof;have rT9:∀w',(Op.stringOp .add ⟨T8.toArray⟩ ⟨#[42]⟩).run Tryz.prog w'= .ok (.string ⟨(T8++[42]).toArray⟩) w':=au T8 [42] (by simp only[ay,ln];omega);have lT9:(T8++[42]).length<=T8.length+1:=ax _ _;generalize hT9:T8++[42]=T9 at*
     have ZH:=hd0 hT9.symm;clear hT9;go_wp2_with fail
     go_roundw
     case rel=>exact⟨j+1,by omega,by omega,by simp,by rw[HON.out,ZH.out,Ba.out,xK.out,xe.out],dY.out⟩
     case measure=>simp[intOf];omega
    obtain rfl:j=en+1:=by omega
    have hf2:=UD K3.out z3 (en+1) n;have hs2:(T5++((pts.take (en+1)).drop n).flatMap qQ).length<=T5.length+(((pts.take (en+1)).drop n).flatMap qQ).length:=ax _ _;have e1:decide (((en:Int)+1)<=en)=false:=by simp;omega
    generalize hE1:T5++((pts.take (en+1)).drop n).flatMap qQ=E1 at*
    have PW:=hd0 hE1.symm;clear hE1 hb;have akO:∀w',(Op.stringOp .add ⟨E1.toArray⟩ ⟨#[10]⟩).run Tryz.prog w'= .ok (.string ⟨(E1++[10]).toArray⟩) w':=au E1 [10] (by simp only[ay,ln];omega);have aiL:(E1++[10]).length<=E1.length+1:=ax _ _;generalize hT10:E1++[10]=T10 at*
    have abk:=hd0 hT10.symm;clear hT10;have hNX:Hid (T10++(dL pts (en+1) (ends.drop (k+1))).flatMap yh=T4++CT/\lW (en+1) (ends.drop (k+1)) pts.length):=hd0 ⟨by rw[<-hDk.out,abk.out,PW.out,BI.out];simp[yh,iW],Xt.out⟩;go_wp2_with fail
    go_roundw
    case rel=>exact⟨k+1,en+1,T10,by omega,by omega,by simp,by simp,rfl,hNX,fQ.out⟩
    case measure=>simp[intOf];omega
  obtain rfl:k=ends.length:=by omega
  have UQ:D=T4++CT:=by have:=hD.out.1;rw[List.drop_length,dL] at this;simpa using this
  have lSC:D.length=T4.length+CT.length:=by rw[UQ,az]
  have HSC:=hd0 UQ;clear UQ hD hb;go_wp2_with fail
  go_loopw [5,10] (fun s i wr=>∃k:Nat,k<=parts.length/\i= .int .i64 k/\s= .string ⟨(D++(parts.take k).flatMap (tq f.anL)).toArray⟩/\Below W0.heap.size W0 wr) (fun _ i _=>parts.length - (intOf i).toNat)
  case atStart=>exact⟨0,nz _,rfl,by simp,HX.out⟩
  case round=>
   obtain⟨wp,rfl⟩:∃x,x=wr:=⟨_,rfl⟩
   obtain⟨k,hk,rfl,rfl,hb⟩:=hrel;clear HX;have HX:=hd0 hb;have g5:wp.cell? ⟨w.heap.size+1,5,none⟩=some (.slice B5 parts.length d5):=((af HX.out).1 _ _ z1).trans (fC.out.cell 5);by_cases hlt:k<parts.length
   ·
    obtain⟨b,o,x,rfl,-,hx,q0,q1,q2,-⟩:=(H5.out.lw aog.ok hb).part hlt;obtain⟨hx1,hx2,hx3⟩:=K5.out x (aqt hx.out);have hx4:=KG.out x (aqt hx.out);have hsn:Hid (D++(parts.take (k+1)).flatMap (tq f.anL)=D++(parts.take k).flatMap (tq f.anL)++[112,97,114,116]++fU f.anL x.anX++dB x.x++dB x.y++[10]):=by show _=_;rw[bg hx.out];simp[tq,pX]
    have hf:=bJ (f:=(tq f.anL)) hx.out;have hs0:(D++(parts.take k).flatMap (tq f.anL)).length<=D.length+((parts.take k).flatMap (tq f.anL)).length:=ax _ _;have sm0:(dB x.x).length<=101:=by have:=bV hx2;rw[dB,ay];omega
    have HA1:=hd0 (fun w'=>iy w' x.x hx2);have sm1:(dB x.y).length<=101:=by have:=bV hx3;rw[dB,ay];omega
    have HA2:=hd0 (fun w'=>iy w' x.y hx3);have sm2:(fU f.anL x.anX).length<=101:=by rw[fU,ay];omega
    have HB0:=hd0 (aj (W:=wp) (fun w' hw'=>zD w' f [.int .i64 f.unit,.slice A1 f.anL.length c1,.slice A2 f.chars.length c2,.slice A3 f.anM.length c3,.slice A4 f.features.length c4,.slice A5 f.anR.length c5,.slice A6 f.regions.length c6,.slice A7 f.funcs.length c7,.slice A8 f.cvt.length c8] ((HF.out.lw hb).lw hw') x.anX hx1 hx4));have HB1:=hd0 (aj (W:=wp) (fun w' _=>HA1.out w'));have HB2:=hd0 (aj (W:=wp) (fun w' _=>HA2.out w'));clear hx hx1 hx2 hx3 hx4 hb HA1 HA2;generalize D++(parts.take k).flatMap (tq f.anL)=S2 at*
    generalize fU f.anL x.anX=DN at*
    generalize dB x.x=DX at*
    generalize dB x.y=DY at*
    have ajV:∀w',(Op.stringOp .add ⟨S2.toArray⟩ ⟨#[112,97,114,116]⟩).run Tryz.prog w'= .ok (.string ⟨(S2++[112,97,114,116]).toArray⟩) w':=au S2 [112,97,114,116] (by simp only[ay,ln];omega);have ajC:(S2++[112,97,114,116]).length<=S2.length+4:=ax _ _;generalize hT11:S2++[112,97,114,116]=T11 at*
    have E5:=hd0 hT11.symm;clear hT11;have ai6:∀w',(Op.stringOp .add ⟨T11.toArray⟩ ⟨DN.toArray⟩).run Tryz.prog w'= .ok (.string ⟨(T11++DN).toArray⟩) w':=au T11 DN (by omega);have aih:(T11++DN).length<=T11.length+DN.length:=ax _ _;generalize hT12:T11++DN=T12 at*
    have Dl:=hd0 hT12.symm;clear hT12;have ajf:∀w',(Op.stringOp .add ⟨T12.toArray⟩ ⟨DX.toArray⟩).run Tryz.prog w'= .ok (.string ⟨(T12++DX).toArray⟩) w':=au T12 DX (by omega);have ai0:(T12++DX).length<=T12.length+DX.length:=ax _ _;generalize hT13:T12++DX=T13 at*
    have abV:=hd0 hT13.symm;clear hT13;have ai8:∀w',(Op.stringOp .add ⟨T13.toArray⟩ ⟨DY.toArray⟩).run Tryz.prog w'= .ok (.string ⟨(T13++DY).toArray⟩) w':=au T13 DY (by omega);have ajO:(T13++DY).length<=T13.length+DY.length:=ax _ _;generalize hT14:T13++DY=T14 at*
    have aav:=hd0 hT14.symm;clear hT14;have ajF:∀w',(Op.stringOp .add ⟨T14.toArray⟩ ⟨#[10]⟩).run Tryz.prog w'= .ok (.string ⟨(T14++[10]).toArray⟩) w':=au T14 [10] (by simp only[ay,ln];omega);have aiz:(T14++[10]).length<=T14.length+1:=ax _ _;generalize hT15:T14++[10]=T15 at*
    have aaH:=hd0 hT15.symm;clear hT15;have x0:∀xw:WIn (fun v=>Below wp.heap.size wp v),xw.w.cell? ⟨w.heap.size,0,none⟩=some (.int .i64 f.unit):=ae (((af HX.out).1 _ _ z0).trans (HK.out.cell 0));have x1:∀xw:WIn (fun v=>Below wp.heap.size wp v),xw.w.cell? ⟨w.heap.size,1,none⟩=some (.slice A1 f.anL.length c1):=ae (((af HX.out).1 _ _ z0).trans (HK.out.cell 1));have x2:∀xw:WIn (fun v=>Below wp.heap.size wp v),xw.w.cell? ⟨w.heap.size,2,none⟩=some (.slice A2 f.chars.length c2):=ae (((af HX.out).1 _ _ z0).trans (HK.out.cell 2));have x3:∀xw:WIn (fun v=>Below wp.heap.size wp v),xw.w.cell? ⟨w.heap.size,3,none⟩=some (.slice A3 f.anM.length c3):=ae (((af HX.out).1 _ _ z0).trans (HK.out.cell 3));have x4:∀xw:WIn (fun v=>Below wp.heap.size wp v),xw.w.cell? ⟨w.heap.size,4,none⟩=some (.slice A4 f.features.length c4):=ae (((af HX.out).1 _ _ z0).trans (HK.out.cell 4));have x5:∀xw:WIn (fun v=>Below wp.heap.size wp v),xw.w.cell? ⟨w.heap.size,5,none⟩=some (.slice A5 f.anR.length c5):=ae (((af HX.out).1 _ _ z0).trans (HK.out.cell 5));have x6:∀xw:WIn (fun v=>Below wp.heap.size wp v),xw.w.cell? ⟨w.heap.size,6,none⟩=some (.slice A6 f.regions.length c6):=ae (((af HX.out).1 _ _ z0).trans (HK.out.cell 6));have x7:∀xw:WIn (fun v=>Below wp.heap.size wp v),xw.w.cell? ⟨w.heap.size,7,none⟩=some (.slice A7 f.funcs.length c7):=ae (((af HX.out).1 _ _ z0).trans (HK.out.cell 7));have x8:∀xw:WIn (fun v=>Below wp.heap.size wp v),xw.w.cell? ⟨w.heap.size,8,none⟩=some (.slice A8 f.cvt.length c8):=ae (((af HX.out).1 _ _ z0).trans (HK.out.cell 8));have yc:=ae g5;have xu:=ae q0;have xv:=ae q1;have xz:=ae q2;clear q0 q1 q2 hf hs0;go_wp2_with fail
    refine aW (fun v=>Below wp.heap.size wp v) (by kernel_rfl) (by kernel_rfl) ((aqk wp.heap.size wp).drew) ?_;have aU:Nonempty (WIn (fun v=>Below wp.heap.size wp v)):=⟨⟨_,((aqk wp.heap.size wp).drew)⟩⟩
    repeat(go_big_quiet_step (first|with_reducible exact HB0.out _|with_reducible exact HB1.out _|with_reducible exact HB2.out _))
    refine wpQuiet_nil ?_;intro _ hw';obtain⟨xq,hw''⟩:=hw';subst hw'';have dY:Hid (Below W0.heap.size W0 xq.w):=hd0 (HX.out.trans (xq.ok.mono HX.out.size));generalize xq.w=wz at*
    go_wp2_with fail
    go_roundw
    case rel=>exact⟨k+1,by omega,by simp,by rw[hsn.out,aaH.out,aav.out,abV.out,Dl.out,E5.out],dY.out⟩
    case measure=>simp[intOf];omega
   obtain rfl:k=parts.length:=by omega
   rw[aqr];have alZ:(D++parts.flatMap (tq f.anL)).length<=D.length+(parts.flatMap (tq f.anL)).length:=ax _ _;generalize hSwp:D++parts.flatMap (tq f.anL)=Swp at*
   have akr:=hd0 hSwp.symm;clear hSwp hb;go_wp2_with fail
   go_loopw [5,11] (fun s i wr=>∃k:Nat,k<=bQ.length/\i= .int .i64 k/\s= .string ⟨(Swp++(bQ.take k).flatMap sZ).toArray⟩/\Below W0.heap.size W0 wr) (fun _ i _=>bQ.length - (intOf i).toNat)
   case atStart=>exact⟨0,nz _,rfl,by simp,HX.out⟩
   case round=>
    obtain⟨wa2,rfl⟩:∃x,x=wr:=⟨_,rfl⟩
    obtain⟨k,hk,rfl,rfl,hb⟩:=hrel;clear HX;have HX:=hd0 hb;have g6:wa2.cell? ⟨w.heap.size+1,6,none⟩=some (.slice B6 bQ.length d6):=((af HX.out).1 _ _ z1).trans (fC.out.cell 6);by_cases hlt:k<bQ.length
    ·
     obtain⟨b,o,x,rfl,-,hx,q0,q1,q2,q3,-⟩:=(H6.out.lw an2.ok hb).anchor hlt;obtain⟨hx1,hx2,hx3,hx4,hx5⟩:=K6.out x (aqt hx.out);obtain⟨ak,hak,ab6⟩:∃ak:Nat,x.kind=(ak:Int)+1/\ak<4:=⟨(x.kind - 1).toNat,by omega,by omega⟩
     have han:Hid (anchorNames[ak]? =some (pick anchorNames x.kind)):=by rw[hak];exact hd0 (agZ ak ab6)
     have hsn:Hid (Swp++(bQ.take (k+1)).flatMap sZ=Swp++(bQ.take k).flatMap sZ++[97,110,99,104,111,114,32]++pick anchorNames x.kind++dB x.cls++dB x.x++dB x.y++[10]):=by show _=_;rw[bg hx.out];simp[sZ,kC]
     have hf:=bJ (f:=sZ) hx.out;have hs0:(Swp++(bQ.take k).flatMap sZ).length<=Swp.length+((bQ.take k).flatMap sZ).length:=ax _ _;have sm0:(dB x.cls).length<=101:=by have:=bV hx3;rw[dB,ay];omega
     have jL:=hd0 (fun w'=>iy w' x.cls hx3);have sm1:(dB x.x).length<=101:=by have:=bV hx4;rw[dB,ay];omega
     have HA1:=hd0 (fun w'=>iy w' x.x hx4);have sm2:(dB x.y).length<=101:=by have:=bV hx5;rw[dB,ay];omega
     have HA2:=hd0 (fun w'=>iy w' x.y hx5);have sm3:=qH anchorNames 8 (by decide) (by decide) x.kind;rw[hak] at q0;clear hx hx1 hx2 hx3 hx4 hx5 hb;generalize Swp++(bQ.take k).flatMap sZ=S2 at*
     generalize pick anchorNames x.kind=DK at*
     generalize dB x.cls=DA at*
     generalize dB x.x=DX at*
     generalize dB x.y=DY at*
     have e1:decide ((1:Int)<=(ak:Int)+1)=true:=by simp;omega
     have e2:decide ((ak:Int)+1<=4)=true:=by simp;omega
     go_wp2_with fail
     obtain⟨W2,hW2⟩:∃W2,wa2.alloc (.cells #[.int .i64 ((ak:Int)+1),.int .i64 x.cls,.int .i64 x.x,.int .i64 x.y] 89)=W2:=⟨_,rfl⟩
     rw[hW2];have HW2:Hid (Below W0.heap.size W0 W2):=by rw[<-hW2];exact hd0 (HX.out.alloc HX.out.size _)
     have hbk:Bk W2 wa2.heap.size 89 #[.int .i64 ((ak:Int)+1),.int .i64 x.cls,.int .i64 x.x,.int .i64 x.y]:=by rw[<-hW2];exact Bk.new _ _ _
     have eH:=hd0 hbk;have yu:=hbk.lt;clear hW2;clear q0 q1 q2 q3;obtain⟨lb,hlb⟩:∃lb,wa2.heap.size=lb:=⟨_,rfl⟩
     rw[hlb] at hbk eH yu;rw[hlb];clear hlb;go_cut [13] from 123 to 165 (fun v13 wx=>v13= .string ⟨DK.toArray⟩/\Below W2.heap.size W2 wx)
     case first=>
      have x0:W2.cell? ⟨lb,0,none⟩=some (.int .i64 ((ak:Int)+1)):=hbk.cell 0;clear hbk;have hlt4:decide ((ak:Int)<4)=true:=by simp;omega
      have hbw:=hd0 (aqk W2.heap.size W2);have hsu:(ak:Int)+1 - 1=ak:=by omega
      have hwr:IntKind.i64.wrap (ak:Int)=ak:=by rw[IntKind.wrap_i64];omega
      have hwr2:IntKind.i64.wrap ((ak:Int)+1 - 1)=ak:=by rw[hsu,hwr]
      go_wp2_with fail
      go_region_with (go_at_call 105;refine(WX _).mono ?_;rintro e w5 ⟨nb,rfl,hb5,hy⟩;have y0:=hy ak DK han.out;have x5:w5.cell? ⟨lb,0,none⟩=some (.int .i64 ((ak:Int)+1)):=((af hb5).1 _ _ yu).trans x0;clear hy)
      all_goals
       go_wp2_with fail
       go_meet
       first
        |exact⟨rfl,hb5⟩
        |exact⟨rfl,Uo hb5⟩
     case rest=>
     obtain⟨rfl,hbc⟩:=hcut;obtain⟨w3,rfl⟩:∃x,x=wc:=⟨_,rfl⟩
     have HW3:Hid (Below W0.heap.size W0 w3):=hd0 (HW2.out.trans (hbc.mono HW2.out.size));have KO:=hd0 hbc;clear hbc;have x0:∀xw:WIn (fun v=>Below w3.heap.size w3 v),xw.w.cell? ⟨lb,0,none⟩=some (.int .i64 ((ak:Int)+1)):=ae (((af KO.out).1 _ _ yu).trans (eH.out.cell 0));have x1:∀xw:WIn (fun v=>Below w3.heap.size w3 v),xw.w.cell? ⟨lb,1,none⟩=some (.int .i64 x.cls):=ae (((af KO.out).1 _ _ yu).trans (eH.out.cell 1));have x2:∀xw:WIn (fun v=>Below w3.heap.size w3 v),xw.w.cell? ⟨lb,2,none⟩=some (.int .i64 x.x):=ae (((af KO.out).1 _ _ yu).trans (eH.out.cell 2));have x3:∀xw:WIn (fun v=>Below w3.heap.size w3 v),xw.w.cell? ⟨lb,3,none⟩=some (.int .i64 x.y):=ae (((af KO.out).1 _ _ yu).trans (eH.out.cell 3));clear hbk;have HB0:=hd0 (aj (W:=w3) (fun w' _=>jL.out w'));have HB1:=hd0 (aj (W:=w3) (fun w' _=>HA1.out w'));have HB2:=hd0 (aj (W:=w3) (fun w' _=>HA2.out w'));have ajL:∀w',(Op.stringOp .add ⟨S2.toArray⟩ ⟨#[97,110,99,104,111,114,32]⟩).run Tryz.prog w'= .ok (.string ⟨(S2++[97,110,99,104,111,114,32]).toArray⟩) w':=au S2 [97,110,99,104,111,114,32] (by simp only[ay,ln];omega);have ajd:(S2++[97,110,99,104,111,114,32]).length<=S2.length+7:=ax _ _;generalize hT16:S2++[97,110,99,104,111,114,32]=T16 at*
     have aa7:=hd0 hT16.symm;clear hT16;have aiY:∀w',(Op.stringOp .add ⟨T16.toArray⟩ ⟨DK.toArray⟩).run Tryz.prog w'= .ok (.string ⟨(T16++DK).toArray⟩) w':=au T16 DK (by omega);have akF:(T16++DK).length<=T16.length+DK.length:=ax _ _;generalize hT17:T16++DK=T17 at*
     have Z5:=hd0 hT17.symm;clear hT17;have ajh:∀w',(Op.stringOp .add ⟨T17.toArray⟩ ⟨DA.toArray⟩).run Tryz.prog w'= .ok (.string ⟨(T17++DA).toArray⟩) w':=au T17 DA (by omega);have aix:(T17++DA).length<=T17.length+DA.length:=ax _ _;generalize hT18:T17++DA=T18 at*
     have abH:=hd0 hT18.symm;clear hT18;have akn:∀w',(Op.stringOp .add ⟨T18.toArray⟩ ⟨DX.toArray⟩).run Tryz.prog w'= .ok (.string ⟨(T18++DX).toArray⟩) w':=au T18 DX (by omega);have ajQ:(T18++DX).length<=T18.length+DX.length:=ax _ _;generalize hT19:T18++DX=T19 at*
     have acn:=hd0 hT19.symm;clear hT19;have aj7:∀w',(Op.stringOp .add ⟨T19.toArray⟩ ⟨DY.toArray⟩).run Tryz.prog w'= .ok (.string ⟨(T19++DY).toArray⟩) w':=au T19 DY (by omega);have ajR:(T19++DY).length<=T19.length+DY.length:=ax _ _;generalize hT20:T19++DY=T20 at*
     have abl:=hd0 hT20.symm;clear hT20;have aj9:∀w',(Op.stringOp .add ⟨T20.toArray⟩ ⟨#[10]⟩).run Tryz.prog w'= .ok (.string ⟨(T20++[10]).toArray⟩) w':=au T20 [10] (by simp only[ay,ln];omega);have akb:(T20++[10]).length<=T20.length+1:=ax _ _;generalize hT21:T20++[10]=T21 at*
     have aaT:=hd0 hT21.symm;clear hT21;clear hf hs0 jL HA1 HA2;go_wp2_with fail
     refine aW (fun v=>Below w3.heap.size w3 v) (by kernel_rfl) (by kernel_rfl) ((aqk w3.heap.size w3).drew) ?_;have aU:Nonempty (WIn (fun v=>Below w3.heap.size w3 v)):=⟨⟨_,((aqk w3.heap.size w3).drew)⟩⟩
     repeat(go_big_quiet_step (first|with_reducible exact HB0.out _|with_reducible exact HB1.out _|with_reducible exact HB2.out _))
     refine wpQuiet_nil ?_;intro _ hw';obtain⟨xq,hw''⟩:=hw';subst hw'';have dY:Hid (Below W0.heap.size W0 xq.w):=hd0 (HW3.out.trans (xq.ok.mono HW3.out.size));generalize xq.w=wz at*
     go_wp2_with fail
     go_roundw
     case rel=>exact⟨k+1,by omega,by simp,by rw[hsn.out,aaT.out,abl.out,acn.out,abH.out,Z5.out,aa7.out],dY.out⟩
     case measure=>simp[intOf];omega
    obtain rfl:k=bQ.length:=by omega
    rw[aqr];have alv:(Swp++bQ.flatMap sZ).length<=Swp.length+(bQ.flatMap sZ).length:=ax _ _;generalize hSwa2:Swp++bQ.flatMap sZ=Swa2 at*
    have ag8:=hd0 hSwa2.symm;clear hSwa2 hb;go_wp2_with fail
    go_loopw [5,14] (fun s i wr=>∃k:Nat,k<=an1.length/\i= .int .i64 k/\s= .string ⟨(Swa2++(an1.take k).flatMap tC).toArray⟩/\Below W0.heap.size W0 wr) (fun _ i _=>an1.length - (intOf i).toNat)
    case atStart=>exact⟨0,nz _,rfl,by simp,HX.out⟩
    case round=>
     obtain⟨wd,rfl⟩:∃x,x=wr:=⟨_,rfl⟩
     obtain⟨k,hk,rfl,rfl,hb⟩:=hrel;clear HX;have HX:=hd0 hb;have g7:wd.cell? ⟨w.heap.size+1,7,none⟩=some (.slice B7 an1.length d7):=((af HX.out).1 _ _ z1).trans (fC.out.cell 7);by_cases hlt:k<an1.length
     ·
      obtain⟨b,o,x,rfl,-,hx,q0,q1,q2,q3,-⟩:=(H7.out.lw an6.ok hb).delta hlt;obtain⟨hx1,hx2,hx3,hx4⟩:=K7.out x (aqt hx.out);have hsn:Hid (Swa2++(an1.take (k+1)).flatMap tC=Swa2++(an1.take k).flatMap tC++[100,101,108,116,97]++dB x.region++dB x.point++dB x.x++dB x.y++[10]):=by show _=_;rw[bg hx.out];simp[tC,nC]
      have hf:=bJ (f:=tC) hx.out;have hs0:(Swa2++(an1.take k).flatMap tC).length<=Swa2.length+((an1.take k).flatMap tC).length:=ax _ _;have sm0:(dB x.region).length<=101:=by have:=bV hx1;rw[dB,ay];omega
      have jL:=hd0 (fun w'=>iy w' x.region hx1);have sm1:(dB x.point).length<=101:=by have:=bV hx2;rw[dB,ay];omega
      have HA1:=hd0 (fun w'=>iy w' x.point hx2);have sm2:(dB x.x).length<=101:=by have:=bV hx3;rw[dB,ay];omega
      have HA2:=hd0 (fun w'=>iy w' x.x hx3);have sm3:(dB x.y).length<=101:=by have:=bV hx4;rw[dB,ay];omega
      have uX:=hd0 (fun w'=>iy w' x.y hx4);clear hx hx1 hx2 hx3 hx4 hb;generalize Swa2++(an1.take k).flatMap tC=S2 at*
      generalize dB x.region=DA at*
      generalize dB x.point=DN at*
      generalize dB x.x=DX at*
      generalize dB x.y=DY at*
      go_wp2_with fail
      obtain⟨W2,hW2⟩:∃W2,wd.alloc (.cells #[.int .i64 x.region,.int .i64 x.point,.int .i64 x.x,.int .i64 x.y] 91)=W2:=⟨_,rfl⟩
      rw[hW2];have HW2:Hid (Below W0.heap.size W0 W2):=by rw[<-hW2];exact hd0 (HX.out.alloc HX.out.size _)
      have hbk:Bk W2 wd.heap.size 91 #[.int .i64 x.region,.int .i64 x.point,.int .i64 x.x,.int .i64 x.y]:=by rw[<-hW2];exact Bk.new _ _ _
      have eH:=hd0 hbk;have yu:=hbk.lt;clear hW2;clear q0 q1 q2 q3;have x0:∀xw:WIn (fun v=>Below W2.heap.size W2 v),xw.w.cell? ⟨wd.heap.size,0,none⟩=some (.int .i64 x.region):=ae (hbk.cell 0);have x1:∀xw:WIn (fun v=>Below W2.heap.size W2 v),xw.w.cell? ⟨wd.heap.size,1,none⟩=some (.int .i64 x.point):=ae (hbk.cell 1);have x2:∀xw:WIn (fun v=>Below W2.heap.size W2 v),xw.w.cell? ⟨wd.heap.size,2,none⟩=some (.int .i64 x.x):=ae (hbk.cell 2);have x3:∀xw:WIn (fun v=>Below W2.heap.size W2 v),xw.w.cell? ⟨wd.heap.size,3,none⟩=some (.int .i64 x.y):=ae (hbk.cell 3);clear hbk;have HB0:=hd0 (aj (W:=W2) (fun w' _=>jL.out w'));have HB1:=hd0 (aj (W:=W2) (fun w' _=>HA1.out w'));have HB2:=hd0 (aj (W:=W2) (fun w' _=>HA2.out w'));have HB3:=hd0 (aj (W:=W2) (fun w' _=>uX.out w'));have ajT:∀w',(Op.stringOp .add ⟨S2.toArray⟩ ⟨#[100,101,108,116,97]⟩).run Tryz.prog w'= .ok (.string ⟨(S2++[100,101,108,116,97]).toArray⟩) w':=au S2 [100,101,108,116,97] (by simp only[ay,ln];omega);have ai1:(S2++[100,101,108,116,97]).length<=S2.length+5:=ax _ _;generalize hT22:S2++[100,101,108,116,97]=T22 at*
      have aaE:=hd0 hT22.symm;clear hT22;have aj3:∀w',(Op.stringOp .add ⟨T22.toArray⟩ ⟨DA.toArray⟩).run Tryz.prog w'= .ok (.string ⟨(T22++DA).toArray⟩) w':=au T22 DA (by omega);have akI:(T22++DA).length<=T22.length+DA.length:=ax _ _;generalize hT23:T22++DA=T23 at*
      have ab8:=hd0 hT23.symm;clear hT23;have aiU:∀w',(Op.stringOp .add ⟨T23.toArray⟩ ⟨DN.toArray⟩).run Tryz.prog w'= .ok (.string ⟨(T23++DN).toArray⟩) w':=au T23 DN (by omega);have ai3:(T23++DN).length<=T23.length+DN.length:=ax _ _;generalize hT24:T23++DN=T24 at*
      have abf:=hd0 hT24.symm;clear hT24;have ajo:∀w',(Op.stringOp .add ⟨T24.toArray⟩ ⟨DX.toArray⟩).run Tryz.prog w'= .ok (.string ⟨(T24++DX).toArray⟩) w':=au T24 DX (by omega);have akM:(T24++DX).length<=T24.length+DX.length:=ax _ _;generalize hT25:T24++DX=T25 at*
      have aag:=hd0 hT25.symm;clear hT25;have aji:∀w',(Op.stringOp .add ⟨T25.toArray⟩ ⟨DY.toArray⟩).run Tryz.prog w'= .ok (.string ⟨(T25++DY).toArray⟩) w':=au T25 DY (by omega);have ai4:(T25++DY).length<=T25.length+DY.length:=ax _ _;generalize hT26:T25++DY=T26 at*
      have aaF:=hd0 hT26.symm;clear hT26;have ajm:∀w',(Op.stringOp .add ⟨T26.toArray⟩ ⟨#[10]⟩).run Tryz.prog w'= .ok (.string ⟨(T26++[10]).toArray⟩) w':=au T26 [10] (by simp only[ay,ln];omega);have ajj:(T26++[10]).length<=T26.length+1:=ax _ _;generalize hT27:T26++[10]=T27 at*
      have aas:=hd0 hT27.symm;clear hT27;clear hf hs0 jL HA1 HA2 uX;refine aW (fun v=>Below W2.heap.size W2 v) (by kernel_rfl) (by kernel_rfl) ((aqk W2.heap.size W2).drew) ?_;have aU:Nonempty (WIn (fun v=>Below W2.heap.size W2 v)):=⟨⟨_,((aqk W2.heap.size W2).drew)⟩⟩
      repeat(go_big_quiet_step (first|with_reducible exact HB0.out _|with_reducible exact HB1.out _|with_reducible exact HB2.out _|with_reducible exact HB3.out _))
      refine wpQuiet_nil ?_;intro _ hw';obtain⟨xq,hw''⟩:=hw';subst hw'';have dY:Hid (Below W0.heap.size W0 xq.w):=hd0 (HW2.out.trans (xq.ok.mono HW2.out.size));generalize xq.w=wz at*
      go_wp2_with fail
      go_roundw
      case rel=>exact⟨k+1,by omega,by simp,by rw[hsn.out,aas.out,aaF.out,aag.out,abf.out,ab8.out,aaE.out],dY.out⟩
      case measure=>simp[intOf];omega
     obtain rfl:k=an1.length:=by omega
     rw[aqr];have anh:(Swa2++an1.flatMap tC).length<=Swa2.length+(an1.flatMap tC).length:=ax _ _;generalize hSwd:Swa2++an1.flatMap tC=Swd at*
     have aiA:=hd0 hSwd.symm;clear hSwd hb;have g8:wd.cell? ⟨w.heap.size+1,8,none⟩=some (.slice B8 hint.length d8):=((af HX.out).1 _ _ z1).trans (fC.out.cell 8);have hop:=hd0 (TT wd B8 d8 hint (H8.out.lw an5.ok HX.out) K8.out z8);generalize hint.flatMap oV=HI at*
     have aid:∀w',(Op.stringOp .add ⟨Swd.toArray⟩ ⟨#[104,105,110,116]⟩).run Tryz.prog w'= .ok (.string ⟨(Swd++[104,105,110,116]).toArray⟩) w':=au Swd [104,105,110,116] (by simp only[ay,ln];omega);have ajx:(Swd++[104,105,110,116]).length<=Swd.length+4:=ax _ _;generalize hT28:Swd++[104,105,110,116]=T28 at*
     have aaV:=hd0 hT28.symm;clear hT28;have ajN:∀w',(Op.stringOp .add ⟨T28.toArray⟩ ⟨HI.toArray⟩).run Tryz.prog w'= .ok (.string ⟨(T28++HI).toArray⟩) w':=au T28 HI (by omega);have ajz:(T28++HI).length<=T28.length+HI.length:=ax _ _;generalize hT29:T28++HI=T29 at*
     have abI:=hd0 hT29.symm;clear hT29;have aik:∀w',(Op.stringOp .add ⟨T29.toArray⟩ ⟨#[10]⟩).run Tryz.prog w'= .ok (.string ⟨(T29++[10]).toArray⟩) w':=au T29 [10] (by simp only[ay,ln];omega);have aiH:(T29++[10]).length<=T29.length+1:=ax _ _;generalize hT30:T29++[10]=T30 at*
     have abY:=hd0 hT30.symm;clear hT30;have hfin:Hid (lu f.anL ⟨nm,adv,mk,pts,ends,parts,bQ,an1,hint⟩=T30):=hd0 (by rw[hgl.out,abY.out,abI.out,aaV.out,aiA.out,ag8.out,akr.out,HSC.out,HT4.out,HT3.out,HT2.out,HT1.out]);go_wp2_with fail
     refine hop.out.mono ?_;rintro e wy ⟨rfl,hby⟩;go_wp2_with fail
     go_ret
     exact⟨by rw[hfin.out];rfl,HW.out.trans ((HX.out.trans (hby.mono HX.out.size)).mono HW.out.size)⟩
end Go.Proofs.YtkijckccfookeaaGreatDoor
