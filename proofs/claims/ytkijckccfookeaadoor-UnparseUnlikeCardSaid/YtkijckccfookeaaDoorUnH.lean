/- Lemmas. -/
import Derived.Test.YtkijckccfookeaaDoorX22
set_option linter.unusedVariables false
set_option linter.unusedSimpArgs false
set_option maxRecDepth 100000
set_option maxHeartbeats 32000000
namespace Go.Proofs.YtkijckccfookeaaDoor
open Go.RowKit Go.Shelf Go.Sort
attribute [local go_sem] Oper.semAt_some
def Oa (x:aeS):B:=ax iL (x.name::af x.advance::if x.mark then [sG] else [])
def Uk (x:aeS):B:=(dK x.points 0 x.ends).flatMap (fun c=>ax iG (c.map iE))
def lQ (gs:List aeS)(p:Part):B:=ax sU [bM gs p.aeT,af p.x,af p.y]
def nP (a:ae5):B:=ax nD [pick anchorNames a.kind,af a.cls,af a.x,af a.y]
def uN (d:Delta):B:=ax pR [af d.region,af d.point,af d.x,af d.y]
def yw (l:List Ins):B:=if l.isEmpty then [] else ax pJ (l.map bW)
theorem jR {α:Type}(f:α->B)(hf:∀x,1<=(f x).length)(l:List α):l.length<=(l.flatMap f).length:=by
 induction l with
 |nil=>simp
 |cons x l ih=>have:=hf x;rw[agV,la,aV];omega
theorem iJ (f:B)(ws:List B):1<=(ax f ws).length:=by have:=jw f ws;omega
theorem xN (gs:List aeS)(x:aeS):dn gs x=Oa x++Uk x++x.parts.flatMap (lQ gs)++x.anchors.flatMap nP++x.deltas.flatMap uN++yw x.hint:=rfl
theorem KU (w:World)(Bd g:Nat)(fc:Nat->Value)(txt:B)(gs:List aeS)(A3 A4 A5 A6 A7 A8:Option Addr)(c3 c4 c5 c6 c7 c8:Nat)(x:aeS)(hT:Tabs w)(hG:nG<=Bd)(hP:PN w g gs)(hgl:gs.length<=1000000000000)(hp:Pr w Bd g fc txt)(hBd:Bd<=w.heap.size)
  (r1:I64 x.advance) (h3:Sl PtR 3 w (FT w) A3 x.points) (h4:Sl aeQ 1 w (FT w) A4 x.ends) (h5:Sl afg 3 w (FT w) A5 x.parts) (h6:Sl ae6 4 w (FT w) A6 x.anchors) (h7:Sl afc 4 w (FT w) A7 x.deltas) (h8:Sl ae9 2 w (FT w) A8 x.hint)
  (hpn:x.points.length<=1000000000) (hen:x.ends.length<=1000000000) (hhn:x.hint.length<=1000000000) (hlen:txt.length+(dn gs x).length<=10000000000):
  Calls Tryd.prog 25 #[.pointer (some ⟨g,0,none⟩),.agg #[.string ⟨x.name.toArray⟩,.int .i64 x.advance,.bool x.mark,.slice A3 x.points.length c3,.slice A4 x.ends.length c4,.slice A5 x.parts.length c5,.slice A6 x.anchors.length c6,.slice A7 x.deltas.length c7,.slice A8 x.hint.length c8]] w
   fun e w'=>e= .returned (.tuple #[])/\Pr w' Bd g fc (txt++dn gs x)/\KP w w'/\Below Bd w w':=by
 rw[xN] at hlen ⊢;have Zt:txt.length+(Oa x).length+(Uk x).length+(x.parts.flatMap (lQ gs)).length+(x.anchors.flatMap nP).length+(x.deltas.flatMap uN).length+(yw x.hint).length<=10000000000:=by simp only[la] at hlen;omega
 clear hlen;have HT1:Hid (ax iL (x.name::af x.advance::if x.mark then [sG] else [])=Oa x):=rfl;have Xz:Hid (Uk x=(dK x.points 0 x.ends).flatMap (fun c=>ax iG (c.map iE))):=rfl;generalize Oa x=T1 at*
 generalize Uk x=T2 at*
 have hlen1:txt.length+T1.length<=10000000000:=by omega
 have abV:x.parts.length<=10000000000:=by have:=jR (lQ gs) (fun _=>iJ _ _) x.parts;omega
 have aaQ:x.anchors.length<=10000000000:=by have:=jR nP (fun _=>iJ _ _) x.anchors;omega
 have abY:x.deltas.length<=10000000000:=by have:=jR uN (fun _=>iJ _ _) x.deltas;omega
 refine(callsIn_wide (n:=20)).1 ?_;refine callsIn_of_wp_marks Tryd.func25 rfl trivial ?_ rfl;refine wpIn_wide.2 ?_;simp only[Tryd.ntmps25,List.size_toArray,aV,ln,Nat.reduceAdd,Nat.reduceSub,Array.replicate_succ,Array.replicate_zero,List.push_toArray,List.append_toArray,ahd,agU]
 go_upto_region 1 with fail
 obtain⟨W0,hW0⟩:∃W0,(w.alloc (.cells #[.pointer (some ⟨g,0,none⟩)] 90)).alloc (.cells #[.string ⟨x.name.toArray⟩,.int .i64 x.advance,.bool x.mark,.slice A3 x.points.length c3,.slice A4 x.ends.length c4,.slice A5 x.parts.length c5,.slice A6 x.anchors.length c6,.slice A7 x.deltas.length c7,.slice A8 x.hint.length c8] 57)=W0:=⟨_,rfl⟩
 rw[hW0];have hbW:Below w.heap.size w W0:=by rw[<-hW0];exact((agE _ _).alloc (ai _) _).alloc (by simp) _
 have B0:Bk W0 w.heap.size 90 #[.pointer (some ⟨g,0,none⟩)]:=by rw[<-hW0];exact(bk1 _ _ _).alloc _
 have B1:Bk W0 (w.heap.size+1) 57 #[.string ⟨x.name.toArray⟩,.int .i64 x.advance,.bool x.mark,.slice A3 x.points.length c3,.slice A4 x.ends.length c4,.slice A5 x.parts.length c5,.slice A6 x.anchors.length c6,.slice A7 x.deltas.length c7,.slice A8 x.hint.length c8]:=by
  rw[<-hW0];have:=Bk.new (w.alloc (.cells #[.pointer (some ⟨g,0,none⟩)] 90)) 57 #[.string ⟨x.name.toArray⟩,.int .i64 x.advance,.bool x.mark,.slice A3 x.points.length c3,.slice A4 x.ends.length c4,.slice A5 x.parts.length c5,.slice A6 x.anchors.length c6,.slice A7 x.deltas.length c7,.slice A8 x.hint.length c8]
  rwa [World.size_alloc] at this
 have z0:=hbW.size;clear hW0;have hp0:=hp.below hbW;have hT0:=hT.all hbW;have q0:W0.cell? ⟨w.heap.size,0,none⟩=some (.pointer (some ⟨g,0,none⟩)):=B0.cell 0;have m0:W0.cell? ⟨w.heap.size+1,0,none⟩=some (.string ⟨x.name.toArray⟩):=B1.cell 0;have m1:W0.cell? ⟨w.heap.size+1,1,none⟩=some (.int .i64 x.advance):=B1.cell 1;have m2:W0.cell? ⟨w.heap.size+1,2,none⟩=some (.bool x.mark):=B1.cell 2;have z00:¬(w.heap.size+1=w.heap.size):=by omega
 go_upto_if 13 with fail
 go_cut [1,3,13] from 14 to 29 (fun _ s3 _ wx=>s3= .pointer (some ⟨w.heap.size+1,0,none⟩)/\oH w W0 Bd g fc (txt++T1) wx)
 case first=>
  have n1:=hd0 (fun w hT=>aK w x.advance hT r1);generalize af x.advance=ta at*
  cases hmk:x.mark with
  |true=>
   rw[hmk] at m2 HT1;have HT2:Hid (ax iL [x.name,ta,sG]=T1):=hd0 (by have:=HT1.out;simpa using this);have hl2:txt.length+(ax iL [x.name,ta,sG]).length<=10000000000:=by rw[HT2.out];exact hlen1
   go_wp2_with fail
   go_region_held3 (fun w'=>w'.cell? ⟨w.heap.size,0,none⟩=some (.pointer (some ⟨g,0,none⟩))/\w'.cell? ⟨w.heap.size+1,0,none⟩=some (.string ⟨x.name.toArray⟩)/\w'.cell? ⟨w.heap.size+1,1,none⟩=some (.int .i64 x.advance))
    (first
     |exact⟨(hk2.bk (B0.below hc1) (by decide) (by decide)).cell 0,(hk2.bk (B1.below hc1) (by decide) (by decide)).cell 0,(hk2.bk (B1.below hc1) (by decide) (by decide)).cell 1⟩
     |exact⟨bK _ (ae hc1 q0),bK _ (ae hc1 m0),bK _ (ae hc1 m1)⟩
     |exact⟨ae hc1 q0,ae hc1 m0,ae hc1 m1⟩
     |go_keep)
    (first
     |(go_at_call 21;refine(n1.out _ hT0.drew).mono ?_;rintro e w1 ⟨rfl,hb1⟩;have hc1:=iU hb1;have z1:=hc1.size)
     |(go_at_call 20;refine(jE w1 w1.heap.size 3 rfl Bd g fc txt iL [x.name,ta,sG] rfl (hp0.below hc1) hl2).mono ?_;rintro e w2 ⟨rfl,hp2,hk2,hb2⟩))
   go_wp2
   go_meet
   rw[HT2.out] at hp2;exact⟨rfl,hp2,(KP.below hc1).trans hk2,(hbW.mono hBd).trans ((hc1.mono (by omega)).trans hb2)⟩
  |false=>
   rw[hmk] at m2 HT1;have HT2:Hid (ax iL [x.name,ta]=T1):=hd0 (by have:=HT1.out;simpa using this);have hl2:txt.length+(ax iL [x.name,ta]).length<=10000000000:=by rw[HT2.out];exact hlen1
   go_wp2_with fail
   go_region_held3 (fun w'=>w'.cell? ⟨w.heap.size,0,none⟩=some (.pointer (some ⟨g,0,none⟩))/\w'.cell? ⟨w.heap.size+1,0,none⟩=some (.string ⟨x.name.toArray⟩)/\w'.cell? ⟨w.heap.size+1,1,none⟩=some (.int .i64 x.advance))
    (first
     |exact⟨(hk2.bk (B0.below hc1) (by decide) (by decide)).cell 0,(hk2.bk (B1.below hc1) (by decide) (by decide)).cell 0,(hk2.bk (B1.below hc1) (by decide) (by decide)).cell 1⟩
     |exact⟨bK _ (ae hc1 q0),bK _ (ae hc1 m0),bK _ (ae hc1 m1)⟩
     |exact⟨ae hc1 q0,ae hc1 m0,ae hc1 m1⟩
     |go_keep)
    (first
     |(go_at_call 21;refine(n1.out _ hT0.drew).mono ?_;rintro e w1 ⟨rfl,hb1⟩;have hc1:=iU hb1;have z1:=hc1.size)
     |(go_at_call 20;refine(jE w1 w1.heap.size 2 rfl Bd g fc txt iL [x.name,ta] rfl (hp0.below hc1) hl2).mono ?_;rintro e w2 ⟨rfl,hp2,hk2,hb2⟩))
   go_wp2
   go_meet
   rw[HT2.out] at hp2;exact⟨rfl,hp2,(KP.below hc1).trans hk2,(hbW.mono hBd).trans ((hc1.mono (by omega)).trans hb2)⟩
 case rest=>
  obtain⟨rfl,aJ⟩:=hcut;have hkc:=aJ.2.1;have m3:wc.cell? ⟨w.heap.size+1,3,none⟩=some (.slice A3 x.points.length c3):=(hkc.bk B1 (by decide) (by decide)).cell 3;have m4:wc.cell? ⟨w.heap.size+1,4,none⟩=some (.slice A4 x.ends.length c4):=(hkc.bk B1 (by decide) (by decide)).cell 4;have hkw:KP w wc:=(KP.below hbW).trans hkc;have hA3:=(hkw.sl PtR.ok h3).agz;have hA4:=(hkw.sl aeQ.ok h4).agt;have bg:=hd0 aJ;clear q0 m0 m1 m2 aJ;go_wp2_with (go_at_call 45;refine(EU wc wc.heap.size A3 A4 x.points.length c3 x.ends.length c4 (fP x.points) (FP _) x.ends hA3 hA4 (ai _) (by omega) (by omega)).mono ?_;rintro e w1 ⟨v,u,pb,eb,rfl,hov,hou,hPb,hEb,y1,y2,hb1⟩)
  obtain⟨Av,cv,rfl,hrv⟩:=Rd.afr hov;obtain⟨Eu,cu,rfl,-⟩:=Rd.afr hou;have TZ:=Jv hou;have uU:oH w W0 Bd g fc (txt++T1) w1:=⟨bg.out.1.below hb1,bg.out.2.1.trans (KP.below hb1),bg.out.2.2.trans (hb1.mono (nt (nt hBd z0) bg.out.2.1.size))⟩
  have hsz1:=uU.2.1.size;have hpI:=hd0 (abC h3);have hcl:Hid (∀pre y,pre++[y]<+:BL y.2.2.2 (lD x.points.length 0 0 x.ends)->(pre.flatMap (qK x.points)).length+(qK x.points y).length<=T2.length):=fun pre y hy=>by
   have h1:=AL x.points x.ends y.2.2.2;rw[<-Xz.out] at h1;obtain⟨r,hr⟩:=hy;rw[<-hr] at h1;have h2:=congrArg List.length h1;simp only[aha,la,agV,ahj,ag8] at h2;omega
  clear hov hou m3 m4 hA3 hA4;refine(wpIn_wide (n:=20)).1 ?_;refine sF (d:=10) (by decide) (gf:=69) (lb:= #[.pointer (some ⟨pb,0,none⟩),.pointer (some ⟨eb,0,none⟩)]) rfl (enters_of Tryd.func69 (by kernel_rfl) rfl) (fun _=>rfl)
   (MP w1 x.points.length x.ends.length pb eb cv cu Av Eu (fP x.points) (FP _) x.ends hPb hrv hEb TZ (by omega) (by omega))
   (fun h k=>h.trans k) (fun W l o o' h hc=>KC.put W l o o' h hc) (VC.putObj _ _ _)
   (fun pre W=>oH w W0 Bd g fc (txt++T1++pre.flatMap (qK x.points)) W) (VH (fun pre=>txt++T1++pre.flatMap (qK x.points)) hsz1 (nt hBd z0)) (by simpa using uU) ?a1 ?assign ?body ?done
  case assign=>
   intro l2 y W2 K hK;simp only[MI]
   gi_wp2
   exact hK
  case body=>
   rintro l2 pre ⟨idx,f,e,gg⟩ W2 xM ⟨hpx,hfe,Ci,hrd⟩;dsimp only at hfe Ci hrd ⊢;have hb5:=hcl.out pre (idx,f,e,gg) hpx;have hpW:W2.cell? ⟨w.heap.size,0,none⟩=some (.pointer (some ⟨g,0,none⟩)):=(xM.2.1.bk B0 (by decide) (by decide)).cell 0;have hsl:=VB hrd rfl hpI.out f e hfe Ci;have hTW:Tabs W2:=hT.below xM.2.2 hG;have hcy:=Me W2 Bd g fc (txt++T1++pre.flatMap (qK x.points)) (some ⟨gg,f*3,none⟩) (e+1 - f) (qF x.points f e) hTW xM.1 (nt (nt hBd z0) xM.2.1.size) hsl (by rw[Gv _ _ _ Ci];omega) (by
    have:qK x.points (idx,f,e,gg)=ax iG ((qF x.points f e).map iE):=rfl;rw[<-this];simp only[la];omega)
   rw[Gv _ _ _ Ci] at hcy;have Hcy:=hd0 hcy;have YO:=hd0 xM;clear hcy hsl hrd hpx xM hTW
   gi_wp2_with fail
   refine⟨trivial,rfl,?_⟩;refine(CallsIn.inRound l2 (callsIn_wide.2 Hcy.out)).mono ?_;rintro e5 W3 ⟨rfl,hp3,hk3,hb3⟩;have hout:Hid (oH w W0 Bd g fc (txt++T1++(pre++[(idx,f,e,gg)]).flatMap (qK x.points)) W3/\KC W2 W3/\KeepsOthers W2 W3):=by refine⟨⟨?_,YO.out.2.1.trans hk3,YO.out.2.2.trans hb3⟩,hk3.kc,hk3.others⟩;rw[aha,<-agR];simpa [qK] using hp3
   clear hp3 hk3 hb3
   gi_wp2
   exact hout.out
  case done=>
   rintro D ys W1 hD ⟨g2,hS⟩ uU hK;have uU:oH w W0 Bd g fc (txt++T1++T2) W1:=by rw[hS,AL,<-Xz.out] at uU;exact uU
   clear hS;have ou:=uU.2.1;have DL:KP w W1:=(KP.below hbW).trans ou;have TF:=ou.bk B1 (by decide) (by decide);have Uy:=ou.bk B0 (by decide) (by decide);have hsw:w.heap.size<=w1.heap.size:=nt z0 hsz1;have hBW1:Bd<=W1.heap.size:=nt (nt hBd z0) ou.size;have l41:W1.cell? ⟨w.heap.size+1,5,none⟩=some (.slice A5 x.parts.length c5):=(ou.bk B1 (by decide) (by decide)).cell 5;go_wp2_with fail
   go_loopw [41] (fun i wr=>∃k:Nat,k<=x.parts.length/\i= .int .i64 k/\oH w W1 Bd g fc (txt++T1++T2++(x.parts.take k).flatMap (lQ gs)) wr) (fun i _=>x.parts.length - (intOf i).toNat)
   case atStart=>exact⟨0,nz _,rfl,⟨by simpa using uU.1,KP.refl _,uU.2.2⟩⟩
   case round=>
    obtain⟨k,hk,rfl,aJ⟩:=hrel;by_cases hlt:k<x.parts.length
    ·have hkr:KP w wr:=DL.trans aJ.2.1;have hkb:k<=10000000000:=nt (ahf hlt) abV;obtain⟨b,o,y,rfl,-,hy,q0,q1,q2,r0,r1,r2⟩:=(hkr.sl afg.ok h5).part hlt;have hsn:=hd0 (bG (lQ gs) x.parts k y hy.out);have hle:=bu (lQ gs) x.parts k y hy.out;obtain⟨y0,y1,y2⟩:=y;dsimp only at q0 q1 q2 r0 r1 r2;have hll:(txt++T1++T2++(x.parts.take k).flatMap (lQ gs)).length+(ax sU [bM gs y0,af y1,af y2]).length<=10000000000:=by have e:(lQ gs) ⟨y0,y1,y2⟩=ax sU [bM gs y0,af y1,af y2]:=rfl;rw[e] at hle;simp only[la];omega
     have Ew:=aJ.2.1.bk Uy (by decide) (by decide);have hTr:Tabs wr:=hT.below aJ.2.2 hG;have oD:PN wr g gs:=(hP.below hbW).kp hp0 aJ.1 (ou.trans aJ.2.1);have iP:=nt (nt hBd z0) (ou.trans aJ.2.1).size;have bg:=hd0 aJ;have hpr:=aJ.1;clear hy hle aJ hkr;go_wp2_with fail
     obtain⟨W2,hW2⟩:∃W2,wr.alloc (.cells #[.int .i64 y0,.int .i64 y1,.int .i64 y2] 66)=W2:=⟨_,rfl⟩
     rw[hW2];have hb0:Below wr.heap.size wr W2:=by rw[<-hW2];exact(agE _ _).alloc (ai _) _
     have BV:Bk W2 wr.heap.size 66 #[.int .i64 y0,.int .i64 y1,.int .i64 y2]:=by rw[<-hW2];exact Bk.new _ _ _
     have Hy:=hb0.size;clear hW2 q0 q1 q2;have BP:=Ew.below hb0;have hT2:=hTr.all hb0;have XM:PN W2.drew g gs:=(oD.below hb0).below (agE _ _).drew;have rD:=hpr.below hb0;have p0:W2.cell? ⟨w.heap.size,0,none⟩=some (.pointer (some ⟨g,0,none⟩)):=BP.cell 0;have v0:W2.cell? ⟨wr.heap.size,0,none⟩=some (.int .i64 y0):=BV.cell 0;have v1:W2.cell? ⟨wr.heap.size,1,none⟩=some (.int .i64 y1):=BV.cell 1;have v2:W2.cell? ⟨wr.heap.size,2,none⟩=some (.int .i64 y2):=BV.cell 2
     go_region_held3 (fun w'=>w'.cell? ⟨w.heap.size,0,none⟩=some (.pointer (some ⟨g,0,none⟩))/\w'.cell? ⟨wr.heap.size,0,none⟩=some (.int .i64 y0)/\w'.cell? ⟨wr.heap.size,1,none⟩=some (.int .i64 y1)/\w'.cell? ⟨wr.heap.size,2,none⟩=some (.int .i64 y2))
      (first
       |exact⟨(hkz.bk (BP.below hc3) (by decide) (by decide)).cell 0,(hkz.bk (BV.below hc3) (by decide) (by decide)).cell 0,(hkz.bk (BV.below hc3) (by decide) (by decide)).cell 1,(hkz.bk (BV.below hc3) (by decide) (by decide)).cell 2⟩
       |exact⟨bK _ (ae hc3 p0),bK _ (ae hc3 v0),bK _ (ae hc3 v1),bK _ (ae hc3 v2)⟩
       |exact⟨ae hc3 p0,ae hc3 v0,ae hc3 v1,ae hc3 v2⟩
       |exact⟨ae hc2 p0,ae hc2 v0,ae hc2 v1,ae hc2 v2⟩
       |exact⟨ae hc1 p0,ae hc1 v0,ae hc1 v1,ae hc1 v2⟩
       |go_keep)
      (first
       |(go_at_call 26;refine(uK _ g gs y0 hT2.drew r0 XM hgl).mono ?_;rintro e w1 ⟨rfl,hb1⟩;have hc1:=iU hb1;have z1:=hc1.size)
       |(go_at_call 21;refine(aK _ y1 (hT2.all hc1) r1).mono ?_;rintro e w2 ⟨rfl,hb2⟩;have hc2:=bt hc1 hb2;have z2:=hc2.size)
       |(go_at_call 21;refine(aK _ y2 (hT2.all hc2) r2).mono ?_;rintro e w3 ⟨rfl,hb3⟩;have hc3:=bt hc2 hb3;have z3:=hc3.size)
       |(go_at_call 20;refine(jE w3 w3.heap.size 3 rfl Bd g fc _ sU [bM gs y0,af y1,af y2] rfl (rD.below hc3) hll).mono ?_;rintro e wz ⟨rfl,hpz,hkz,hbz⟩))
     go_wp2;go_roundw
     case rel=>exact⟨k+1,by omega,by simp,by rw[hsn.out,<-agR];exact hpz,bg.out.2.1.trans ((KP.below (bt hb0 hc3)).trans hkz),bg.out.2.2.trans (((bt hb0 hc3).mono iP).trans hbz)⟩
     case measure=>simp[intOf];omega
    obtain rfl:k=x.parts.length:=by omega
    rw[agK] at aJ;have bg:=hd0 aJ;have l62:W1.cell? ⟨w.heap.size+1,6,none⟩=some (.slice A6 x.anchors.length c6):=(ou.bk B1 (by decide) (by decide)).cell 6;have adr:wr.cell? ⟨w.heap.size+1,6,none⟩=some (.slice A6 x.anchors.length c6):=(aJ.2.1.bk TF (by decide) (by decide)).cell 6;go_wp2_with fail
    go_loopw [62] (fun i wr=>∃k:Nat,k<=x.anchors.length/\i= .int .i64 k/\oH w W1 Bd g fc (txt++T1++T2++x.parts.flatMap (lQ gs)++(x.anchors.take k).flatMap nP) wr) (fun i _=>x.anchors.length - (intOf i).toNat)
    case atStart=>exact⟨0,nz _,rfl,by simpa using bg.out⟩
    case round=>
     obtain⟨k,hk,rfl,aJ⟩:=hrel;by_cases hlt:k<x.anchors.length
     ·have hkr:KP w wr:=DL.trans aJ.2.1;have hkb:k<=10000000000:=nt (ahf hlt) aaQ;obtain⟨b,o,y,rfl,-,hy,q0,q1,q2,q3,r0,r1,r2,r3⟩:=(hkr.sl ae6.ok h6).anchor hlt;have hsn:=hd0 (bG nP x.anchors k y hy.out);have hle:=bu nP x.anchors k y hy.out;obtain⟨y0,y1,y2,y3⟩:=y;dsimp only at q0 q1 q2 q3 r0 r1 r2 r3;have hll:(txt++T1++T2++x.parts.flatMap (lQ gs)++(x.anchors.take k).flatMap nP).length+(ax nD [pick anchorNames y0,af y1,af y2,af y3]).length<=10000000000:=by have e:nP ⟨y0,y1,y2,y3⟩=ax nD [pick anchorNames y0,af y1,af y2,af y3]:=rfl;rw[e] at hle;simp only[la];omega
      have Ew:=aJ.2.1.bk Uy (by decide) (by decide);have hTr:Tabs wr:=hT.below aJ.2.2 hG;have oD:PN wr g gs:=(hP.below hbW).kp hp0 aJ.1 (ou.trans aJ.2.1);have iP:=nt (nt hBd z0) (ou.trans aJ.2.1).size;have bg:=hd0 aJ;have hpr:=aJ.1;clear hy hle aJ hkr;go_wp2_with fail
      obtain⟨W2,hW2⟩:∃W2,wr.alloc (.cells #[.int .i64 y0,.int .i64 y1,.int .i64 y2,.int .i64 y3] 68)=W2:=⟨_,rfl⟩
      rw[hW2];have hb0:Below wr.heap.size wr W2:=by rw[<-hW2];exact(agE _ _).alloc (ai _) _
      have BV:Bk W2 wr.heap.size 68 #[.int .i64 y0,.int .i64 y1,.int .i64 y2,.int .i64 y3]:=by rw[<-hW2];exact Bk.new _ _ _
      have Hy:=hb0.size;clear hW2 q0 q1 q2 q3;have BP:=Ew.below hb0;have hT2:=hTr.all hb0;have XM:PN W2.drew g gs:=(oD.below hb0).below (agE _ _).drew;have rD:=hpr.below hb0;have p0:W2.cell? ⟨w.heap.size,0,none⟩=some (.pointer (some ⟨g,0,none⟩)):=BP.cell 0;have v0:W2.cell? ⟨wr.heap.size,0,none⟩=some (.int .i64 y0):=BV.cell 0;have v1:W2.cell? ⟨wr.heap.size,1,none⟩=some (.int .i64 y1):=BV.cell 1;have v2:W2.cell? ⟨wr.heap.size,2,none⟩=some (.int .i64 y2):=BV.cell 2;have v3:W2.cell? ⟨wr.heap.size,3,none⟩=some (.int .i64 y3):=BV.cell 3
      go_region_held3 (fun w'=>w'.cell? ⟨w.heap.size,0,none⟩=some (.pointer (some ⟨g,0,none⟩))/\w'.cell? ⟨wr.heap.size,0,none⟩=some (.int .i64 y0)/\w'.cell? ⟨wr.heap.size,1,none⟩=some (.int .i64 y1)/\w'.cell? ⟨wr.heap.size,2,none⟩=some (.int .i64 y2)/\w'.cell? ⟨wr.heap.size,3,none⟩=some (.int .i64 y3))
       (first
        |exact⟨(hkz.bk (BP.below hc4) (by decide) (by decide)).cell 0,(hkz.bk (BV.below hc4) (by decide) (by decide)).cell 0,(hkz.bk (BV.below hc4) (by decide) (by decide)).cell 1,(hkz.bk (BV.below hc4) (by decide) (by decide)).cell 2,(hkz.bk (BV.below hc4) (by decide) (by decide)).cell 3⟩
        |exact⟨bK _ (ae hc4 p0),bK _ (ae hc4 v0),bK _ (ae hc4 v1),bK _ (ae hc4 v2),bK _ (ae hc4 v3)⟩
        |exact⟨ae hc4 p0,ae hc4 v0,ae hc4 v1,ae hc4 v2,ae hc4 v3⟩
        |exact⟨ae hc3 p0,ae hc3 v0,ae hc3 v1,ae hc3 v2,ae hc3 v3⟩
        |exact⟨ae hc2 p0,ae hc2 v0,ae hc2 v1,ae hc2 v2,ae hc2 v3⟩
        |go_keep)
       (first
        |(go_at_call 47;refine(Fa _ y0 hT2.drew).mono ?_;rintro e w' ⟨rfl,rfl⟩)
        |(go_at_call 21;refine(aK _ y1 hT2.drew r1).mono ?_;rintro e w2 ⟨rfl,hb2⟩;have hc2:=iU hb2;have z2:=hc2.size)
        |(go_at_call 21;refine(aK _ y2 (hT2.all hc2) r2).mono ?_;rintro e w3 ⟨rfl,hb3⟩;have hc3:=bt hc2 hb3;have z3:=hc3.size)
        |(go_at_call 21;refine(aK _ y3 (hT2.all hc3) r3).mono ?_;rintro e w4 ⟨rfl,hb4⟩;have hc4:=bt hc3 hb4;have z4:=hc4.size)
        |(go_at_call 20;refine(jE w4 w4.heap.size 4 rfl Bd g fc _ nD [pick anchorNames y0,af y1,af y2,af y3] rfl (rD.below hc4) hll).mono ?_;rintro e wz ⟨rfl,hpz,hkz,hbz⟩))
      go_wp2;go_roundw
      case rel=>exact⟨k+1,by omega,by simp,by rw[hsn.out,<-agR];exact hpz,bg.out.2.1.trans ((KP.below (bt hb0 hc4)).trans hkz),bg.out.2.2.trans (((bt hb0 hc4).mono iP).trans hbz)⟩
      case measure=>simp[intOf];omega
     obtain rfl:k=x.anchors.length:=by omega
     rw[agK] at aJ;have bg:=hd0 aJ;have l85:W1.cell? ⟨w.heap.size+1,7,none⟩=some (.slice A7 x.deltas.length c7):=(ou.bk B1 (by decide) (by decide)).cell 7;have aew:wr.cell? ⟨w.heap.size+1,7,none⟩=some (.slice A7 x.deltas.length c7):=(aJ.2.1.bk TF (by decide) (by decide)).cell 7;go_wp2_with fail
     go_loopw [85] (fun i wr=>∃k:Nat,k<=x.deltas.length/\i= .int .i64 k/\oH w W1 Bd g fc (txt++T1++T2++x.parts.flatMap (lQ gs)++x.anchors.flatMap nP++(x.deltas.take k).flatMap uN) wr) (fun i _=>x.deltas.length - (intOf i).toNat)
     case atStart=>exact⟨0,nz _,rfl,by simpa using bg.out⟩
     case round=>
      obtain⟨k,hk,rfl,aJ⟩:=hrel;by_cases hlt:k<x.deltas.length
      ·have hkr:KP w wr:=DL.trans aJ.2.1;have hkb:k<=10000000000:=nt (ahf hlt) abY;obtain⟨b,o,y,rfl,-,hy,q0,q1,q2,q3,r0,r1,r2,r3⟩:=(hkr.sl afc.ok h7).delta hlt;have hsn:=hd0 (bG uN x.deltas k y hy.out);have hle:=bu uN x.deltas k y hy.out;obtain⟨y0,y1,y2,y3⟩:=y;dsimp only at q0 q1 q2 q3 r0 r1 r2 r3;have hll:(txt++T1++T2++x.parts.flatMap (lQ gs)++x.anchors.flatMap nP++(x.deltas.take k).flatMap uN).length+(ax pR [af y0,af y1,af y2,af y3]).length<=10000000000:=by have e:uN ⟨y0,y1,y2,y3⟩=ax pR [af y0,af y1,af y2,af y3]:=rfl;rw[e] at hle;simp only[la];omega
       have Ew:=aJ.2.1.bk Uy (by decide) (by decide);have hTr:Tabs wr:=hT.below aJ.2.2 hG;have oD:PN wr g gs:=(hP.below hbW).kp hp0 aJ.1 (ou.trans aJ.2.1);have iP:=nt (nt hBd z0) (ou.trans aJ.2.1).size;have bg:=hd0 aJ;have hpr:=aJ.1;clear hy hle aJ hkr;go_wp2_with fail
       obtain⟨W2,hW2⟩:∃W2,wr.alloc (.cells #[.int .i64 y0,.int .i64 y1,.int .i64 y2,.int .i64 y3] 70)=W2:=⟨_,rfl⟩
       rw[hW2];have hb0:Below wr.heap.size wr W2:=by rw[<-hW2];exact(agE _ _).alloc (ai _) _
       have BV:Bk W2 wr.heap.size 70 #[.int .i64 y0,.int .i64 y1,.int .i64 y2,.int .i64 y3]:=by rw[<-hW2];exact Bk.new _ _ _
       have Hy:=hb0.size;clear hW2 q0 q1 q2 q3;have BP:=Ew.below hb0;have hT2:=hTr.all hb0;have XM:PN W2.drew g gs:=(oD.below hb0).below (agE _ _).drew;have rD:=hpr.below hb0;have p0:W2.cell? ⟨w.heap.size,0,none⟩=some (.pointer (some ⟨g,0,none⟩)):=BP.cell 0;have v0:W2.cell? ⟨wr.heap.size,0,none⟩=some (.int .i64 y0):=BV.cell 0;have v1:W2.cell? ⟨wr.heap.size,1,none⟩=some (.int .i64 y1):=BV.cell 1;have v2:W2.cell? ⟨wr.heap.size,2,none⟩=some (.int .i64 y2):=BV.cell 2;have v3:W2.cell? ⟨wr.heap.size,3,none⟩=some (.int .i64 y3):=BV.cell 3
       go_region_held3 (fun w'=>w'.cell? ⟨w.heap.size,0,none⟩=some (.pointer (some ⟨g,0,none⟩))/\w'.cell? ⟨wr.heap.size,0,none⟩=some (.int .i64 y0)/\w'.cell? ⟨wr.heap.size,1,none⟩=some (.int .i64 y1)/\w'.cell? ⟨wr.heap.size,2,none⟩=some (.int .i64 y2)/\w'.cell? ⟨wr.heap.size,3,none⟩=some (.int .i64 y3))
        (first
         |exact⟨(hkz.bk (BP.below hc4) (by decide) (by decide)).cell 0,(hkz.bk (BV.below hc4) (by decide) (by decide)).cell 0,(hkz.bk (BV.below hc4) (by decide) (by decide)).cell 1,(hkz.bk (BV.below hc4) (by decide) (by decide)).cell 2,(hkz.bk (BV.below hc4) (by decide) (by decide)).cell 3⟩
         |exact⟨bK _ (ae hc4 p0),bK _ (ae hc4 v0),bK _ (ae hc4 v1),bK _ (ae hc4 v2),bK _ (ae hc4 v3)⟩
         |exact⟨ae hc4 p0,ae hc4 v0,ae hc4 v1,ae hc4 v2,ae hc4 v3⟩
         |exact⟨ae hc3 p0,ae hc3 v0,ae hc3 v1,ae hc3 v2,ae hc3 v3⟩
         |exact⟨ae hc2 p0,ae hc2 v0,ae hc2 v1,ae hc2 v2,ae hc2 v3⟩
         |exact⟨ae hc1 p0,ae hc1 v0,ae hc1 v1,ae hc1 v2,ae hc1 v3⟩
         |go_keep)
        (first
         |(go_at_call 21;refine(aK _ y0 hT2.drew r0).mono ?_;rintro e w1 ⟨rfl,hb1⟩;have hc1:=iU hb1;have z1:=hc1.size)
         |(go_at_call 21;refine(aK _ y1 (hT2.all hc1) r1).mono ?_;rintro e w2 ⟨rfl,hb2⟩;have hc2:=bt hc1 hb2;have z2:=hc2.size)
         |(go_at_call 21;refine(aK _ y2 (hT2.all hc2) r2).mono ?_;rintro e w3 ⟨rfl,hb3⟩;have hc3:=bt hc2 hb3;have z3:=hc3.size)
         |(go_at_call 21;refine(aK _ y3 (hT2.all hc3) r3).mono ?_;rintro e w4 ⟨rfl,hb4⟩;have hc4:=bt hc3 hb4;have z4:=hc4.size)
         |(go_at_call 20;refine(jE w4 w4.heap.size 4 rfl Bd g fc _ pR [af y0,af y1,af y2,af y3] rfl (rD.below hc4) hll).mono ?_;rintro e wz ⟨rfl,hpz,hkz,hbz⟩))
       go_wp2;go_roundw
       case rel=>exact⟨k+1,by omega,by simp,by rw[hsn.out,<-agR];exact hpz,bg.out.2.1.trans ((KP.below (bt hb0 hc4)).trans hkz),bg.out.2.2.trans (((bt hb0 hc4).mono iP).trans hbz)⟩
       case measure=>simp[intOf];omega
      obtain rfl:k=x.deltas.length:=by omega
      rw[agK] at aJ;have bg:=hd0 aJ;have l8:wr.cell? ⟨w.heap.size+1,8,none⟩=some (.slice A8 x.hint.length c8):=(aJ.2.1.bk TF (by decide) (by decide)).cell 8;have iP:=nt (nt hBd z0) (ou.trans aJ.2.1).size;have Ew:=aJ.2.1.bk Uy (by decide) (by decide);have p0:wr.cell? ⟨w.heap.size,0,none⟩=some (.pointer (some ⟨g,0,none⟩)):=Ew.cell 0;have hTr:Tabs wr:=hT.below aJ.2.2 hG;have h8r:=(DL.trans aJ.2.1).sl ae9.ok h8;clear aJ;by_cases h0:x.hint=[]
      ·have hz:yw x.hint=[]:=by rw[h0];rfl
       have hz0:¬(0<x.hint.length):=by rw[h0];simp
       have Hz:=hd0 hz;clear hz h0;go_wp2_with fail
       rw[Hz.out,ag8];have hD2:wr.heap[D]? =some (.deferred (some [])):=(bg.out.2.1).same D _ hK trivial;refine⟨by simp,.inl ⟨_,_,rfl,run_takeDeferred hD2,?_⟩⟩;have hgr:=grownBy_putObj' wr D (.deferred none);refine⟨_,results_none rfl _ _ _,rfl,Ic (by have:=bg.out.1;simpa using this) hgr (fun r e=>by cases e;exact⟨_,hD2,rfl⟩),Ht (DL.trans (bg.out.2.1)) hgr (fun r e=>by cases e;exact nt hsw hD),(bg.out.2.2).grown hgr (by omega) (fun r e=>by cases e;omega)⟩
      have hz:yw x.hint=ax pJ (x.hint.map bW):=by unfold yw;rw[if_neg (by simpa using h0)]
      have hz0:0<x.hint.length:=aho.2 h0;have hll:(txt++T1++T2++x.parts.flatMap (lQ gs)++x.anchors.flatMap nP++x.deltas.flatMap uN).length+(ax pJ (x.hint.map bW)).length<=1000000000000:=by rw[<-hz];simp only[la];omega
      have Hz:=hd0 hz;have hpr:=bg.out.1;clear hz h0;have hsd:Sl ae9 2 wr.drew (FT wr.drew) A8 x.hint:=(KP.below (agE _ _).drew).sl ae9.ok h8r;have xM:=bg.out;have BHr:=xM.2.1.bk TF (by decide) (by decide);have hnl:Hid (x.hint.length=(x.hint.map bW).length):=hd0 (agL bW).symm;have Uj:(x.hint.map bW).length<=1000000000000:=by rw[agL];omega
      go_wp2_with fail
      go_region_held3 (fun w'=>w'.cell? ⟨w.heap.size,0,none⟩=some (.pointer (some ⟨g,0,none⟩))/\w'.cell? ⟨w.heap.size+1,8,none⟩=some (.slice A8 x.hint.length c8))
       (first
        |exact⟨(hkz.bk (Ew.below hc1) (by decide) (by decide)).cell 0,(hkz.bk (BHr.below hc1) (by decide) (by decide)).cell 8⟩
        |exact⟨ae hc1 p0,ae hc1 l8⟩
        |go_keep)
       (first
        |(go_at_call 24;refine(sQ _ A8 c8 x.hint hTr.drew hsd (by omega)).mono ?_;rintro e w1 ⟨Aw,cw,rfl,how,hb1⟩;have hc1:=iU hb1;have z1:=hc1.size)
        |(go_at_call 20;refine(lh w1 Bd g fc _ pJ Aw cw x.hint.length (x.hint.map bW) hnl.out (hpr.below hc1) (jP how) ⟨hll,Uj⟩).mono ?_;rintro e wz ⟨rfl,hpz,hkz,hbz⟩))
      go_wp2_with fail
      rw[Hz.out];have QK:=bg.out.2.1.trans ((KP.below hc1).trans hkz);have aao:=bg.out.2.2.trans ((hc1.mono iP).trans hbz);have hszz:=QK.size;have hD2:wz.heap[D]? =some (.deferred (some [])):=(QK).same D _ hK trivial;refine⟨by simp,.inl ⟨_,_,rfl,run_takeDeferred hD2,?_⟩⟩;have hgr:=grownBy_putObj' wz D (.deferred none);refine⟨_,results_none rfl _ _ _,rfl,Ic (by have:=hpz;simpa using this) hgr (fun r e=>by cases e;exact⟨_,hD2,rfl⟩),Ht (DL.trans (QK)) hgr (fun r e=>by cases e;exact nt hsw hD),(aao).grown hgr (by omega) (fun r e=>by cases e;omega)⟩
end Go.Proofs.YtkijckccfookeaaDoor
