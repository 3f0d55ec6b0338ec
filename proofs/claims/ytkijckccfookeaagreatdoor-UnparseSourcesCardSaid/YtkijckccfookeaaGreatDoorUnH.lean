/- Lemmas. -/
import Derived.Test.YtkijckccfookeaaGreatDoorV24
set_option linter.unusedVariables false
set_option linter.unusedSimpArgs false
set_option maxRecDepth 100000
set_option maxHeartbeats 32000000
namespace Go.Proofs.YtkijckccfookeaaGreatDoor
open Go.RowKit Go.Shelf Go.Sort
attribute [local go_sem] Oper.semAt_some
def SH (x:ahR):B:=au dM (x.name::ag x.advance::if x.mark then [iH] else [])
def Yl (x:ahR):B:=(eQ x.points 0 x.ends).flatMap (fun c=>au eX (c.map jb))
def nY (gs:List ahR)(p:Part):B:=au mY [bV gs p.ahU,ag p.x,ag p.y]
def qH (a:aiK):B:=au jd [pick anchorNames a.kind,ag a.cls,ag a.x,ag a.y]
def yA (d:Delta):B:=au kC [ag d.region,ag d.point,ag d.x,ag d.y]
def BU (l:List Ins):B:=if l.isEmpty then [] else au kP (l.map dw)
theorem kV {α:Type}(f:α->B)(hf:∀x,1<=(f x).length)(l:List α):l.length<=(l.flatMap f).length:=by
 induction l with
 |nil=>simp
 |cons x l ih=>have:=hf x;rw[akD,la,aF];omega
theorem jm (f:B)(ws:List B):1<=(au f ws).length:=by have:=kE f ws;omega
theorem zB (gs:List ahR)(x:ahR):dO gs x=SH x++Yl x++x.parts.flatMap (nY gs)++x.anchors.flatMap qH++x.deltas.flatMap yA++BU x.hint:=rfl
theorem Qs (w:World)(Bd g:Nat)(fc:Nat->Value)(txt:B)(gs:List ahR)(A3 A4 A5 A6 A7 A8:Option Addr)(c3 c4 c5 c6 c7 c8:Nat)(x:ahR)(hT:Tabs w)(hG:nG<=Bd)(hP:PN w g gs)(hgl:gs.length<=1000000000000)(hp:Pr w Bd g fc txt)(hBd:Bd<=w.heap.size)
  (r1:I64 x.advance) (h3:Sl PtR 3 w (FT w) A3 x.points) (h4:Sl ahT 1 w (FT w) A4 x.ends) (h5:Sl ah6 3 w (FT w) A5 x.parts) (h6:Sl ahY 4 w (FT w) A6 x.anchors) (h7:Sl ah3 4 w (FT w) A7 x.deltas) (h8:Sl ah5 2 w (FT w) A8 x.hint)
  (hpn:x.points.length<=1000000000) (hen:x.ends.length<=1000000000) (hhn:x.hint.length<=1000000000) (hlen:txt.length+(dO gs x).length<=10000000000):
  Calls Tryz.prog 46 #[.pointer (some ⟨g,0,none⟩),.agg #[.string ⟨x.name.toArray⟩,.int .i64 x.advance,.bool x.mark,.slice A3 x.points.length c3,.slice A4 x.ends.length c4,.slice A5 x.parts.length c5,.slice A6 x.anchors.length c6,.slice A7 x.deltas.length c7,.slice A8 x.hint.length c8]] w
   fun e w'=>e= .returned (.tuple #[])/\Pr w' Bd g fc (txt++dO gs x)/\KP w w'/\Below Bd w w':=by
 rw[zB] at hlen ⊢;have acQ:txt.length+(SH x).length+(Yl x).length+(x.parts.flatMap (nY gs)).length+(x.anchors.flatMap qH).length+(x.deltas.flatMap yA).length+(BU x.hint).length<=10000000000:=by simp only[la] at hlen;omega
 clear hlen;have HT1:Hid (au dM (x.name::ag x.advance::if x.mark then [iH] else [])=SH x):=rfl;have aba:Hid (Yl x=(eQ x.points 0 x.ends).flatMap (fun c=>au eX (c.map jb))):=rfl;generalize SH x=T1 at*
 generalize Yl x=T2 at*
 have hlen1:txt.length+T1.length<=10000000000:=by omega
 have aev:x.parts.length<=10000000000:=by have:=kV (nY gs) (fun _=>jm _ _) x.parts;omega
 have aeU:x.anchors.length<=10000000000:=by have:=kV qH (fun _=>jm _ _) x.anchors;omega
 have afm:x.deltas.length<=10000000000:=by have:=kV yA (fun _=>jm _ _) x.deltas;omega
 refine(callsIn_wide (n:=20)).1 ?_;refine callsIn_of_wp_marks Tryz.func46 rfl trivial ?_ rfl;refine wpIn_wide.2 ?_;simp only[Tryz.ntmps46,List.size_toArray,aF,ln,Nat.reduceAdd,Nat.reduceSub,Array.replicate_succ,Array.replicate_zero,List.push_toArray,List.append_toArray,akX,akC]
 go_upto_region 1 with fail
 obtain⟨W0,hW0⟩:∃W0,(w.alloc (.cells #[.pointer (some ⟨g,0,none⟩)] 125)).alloc (.cells #[.string ⟨x.name.toArray⟩,.int .i64 x.advance,.bool x.mark,.slice A3 x.points.length c3,.slice A4 x.ends.length c4,.slice A5 x.parts.length c5,.slice A6 x.anchors.length c6,.slice A7 x.deltas.length c7,.slice A8 x.hint.length c8] 59)=W0:=⟨_,rfl⟩
 rw[hW0];have hbW:Below w.heap.size w W0:=by rw[<-hW0];exact((akl _ _).alloc (nr _) _).alloc (by simp) _
 have B0:Bk W0 w.heap.size 125 #[.pointer (some ⟨g,0,none⟩)]:=by rw[<-hW0];exact(bk1 _ _ _).alloc _
 have B1:Bk W0 (w.heap.size+1) 59 #[.string ⟨x.name.toArray⟩,.int .i64 x.advance,.bool x.mark,.slice A3 x.points.length c3,.slice A4 x.ends.length c4,.slice A5 x.parts.length c5,.slice A6 x.anchors.length c6,.slice A7 x.deltas.length c7,.slice A8 x.hint.length c8]:=by
  rw[<-hW0];have:=Bk.new (w.alloc (.cells #[.pointer (some ⟨g,0,none⟩)] 125)) 59 #[.string ⟨x.name.toArray⟩,.int .i64 x.advance,.bool x.mark,.slice A3 x.points.length c3,.slice A4 x.ends.length c4,.slice A5 x.parts.length c5,.slice A6 x.anchors.length c6,.slice A7 x.deltas.length c7,.slice A8 x.hint.length c8]
  rwa [World.size_alloc] at this
 have z0:=hbW.size;clear hW0;have hp0:=hp.below hbW;have hT0:=hT.all hbW;have q0:W0.cell? ⟨w.heap.size,0,none⟩=some (.pointer (some ⟨g,0,none⟩)):=B0.cell 0;have m0:W0.cell? ⟨w.heap.size+1,0,none⟩=some (.string ⟨x.name.toArray⟩):=B1.cell 0;have m1:W0.cell? ⟨w.heap.size+1,1,none⟩=some (.int .i64 x.advance):=B1.cell 1;have m2:W0.cell? ⟨w.heap.size+1,2,none⟩=some (.bool x.mark):=B1.cell 2;have z00:¬(w.heap.size+1=w.heap.size):=by omega
 go_upto_if 13 with fail
 go_cut [1,3,13] from 14 to 29 (fun _ s3 _ wx=>s3= .pointer (some ⟨w.heap.size+1,0,none⟩)/\rq w W0 Bd g fc (txt++T1) wx)
 case first=>
  have n1:=hd0 (fun w hT=>aS w x.advance hT r1);generalize ag x.advance=ta at*
  cases hmk:x.mark with
  |true=>
   rw[hmk] at m2 HT1;have HT2:Hid (au dM [x.name,ta,iH]=T1):=hd0 (by have:=HT1.out;simpa using this);have hl2:txt.length+(au dM [x.name,ta,iH]).length<=10000000000:=by rw[HT2.out];exact hlen1
   go_wp2_with fail
   go_region_held3 (fun w'=>w'.cell? ⟨w.heap.size,0,none⟩=some (.pointer (some ⟨g,0,none⟩))/\w'.cell? ⟨w.heap.size+1,0,none⟩=some (.string ⟨x.name.toArray⟩)/\w'.cell? ⟨w.heap.size+1,1,none⟩=some (.int .i64 x.advance))
    (first
     |exact⟨(hk2.bk (B0.below hc1) (by decide) (by decide)).cell 0,(hk2.bk (B1.below hc1) (by decide) (by decide)).cell 0,(hk2.bk (B1.below hc1) (by decide) (by decide)).cell 1⟩
     |exact⟨bU _ (ae hc1 q0),bU _ (ae hc1 m0),bU _ (ae hc1 m1)⟩
     |exact⟨ae hc1 q0,ae hc1 m0,ae hc1 m1⟩
     |go_keep)
    (first
     |(go_at_call 42;refine(n1.out _ hT0.drew).mono ?_;rintro e w1 ⟨rfl,hb1⟩;have hc1:=jF hb1;have z1:=hc1.size)
     |(go_at_call 41;refine(kH w1 w1.heap.size 3 rfl Bd g fc txt dM [x.name,ta,iH] rfl (hp0.below hc1) hl2).mono ?_;rintro e w2 ⟨rfl,hp2,hk2,hb2⟩))
   go_wp2
   go_meet
   rw[HT2.out] at hp2;exact⟨rfl,hp2,(KP.below hc1).trans hk2,(hbW.mono hBd).trans ((hc1.mono (by omega)).trans hb2)⟩
  |false=>
   rw[hmk] at m2 HT1;have HT2:Hid (au dM [x.name,ta]=T1):=hd0 (by have:=HT1.out;simpa using this);have hl2:txt.length+(au dM [x.name,ta]).length<=10000000000:=by rw[HT2.out];exact hlen1
   go_wp2_with fail
   go_region_held3 (fun w'=>w'.cell? ⟨w.heap.size,0,none⟩=some (.pointer (some ⟨g,0,none⟩))/\w'.cell? ⟨w.heap.size+1,0,none⟩=some (.string ⟨x.name.toArray⟩)/\w'.cell? ⟨w.heap.size+1,1,none⟩=some (.int .i64 x.advance))
    (first
     |exact⟨(hk2.bk (B0.below hc1) (by decide) (by decide)).cell 0,(hk2.bk (B1.below hc1) (by decide) (by decide)).cell 0,(hk2.bk (B1.below hc1) (by decide) (by decide)).cell 1⟩
     |exact⟨bU _ (ae hc1 q0),bU _ (ae hc1 m0),bU _ (ae hc1 m1)⟩
     |exact⟨ae hc1 q0,ae hc1 m0,ae hc1 m1⟩
     |go_keep)
    (first
     |(go_at_call 42;refine(n1.out _ hT0.drew).mono ?_;rintro e w1 ⟨rfl,hb1⟩;have hc1:=jF hb1;have z1:=hc1.size)
     |(go_at_call 41;refine(kH w1 w1.heap.size 2 rfl Bd g fc txt dM [x.name,ta] rfl (hp0.below hc1) hl2).mono ?_;rintro e w2 ⟨rfl,hp2,hk2,hb2⟩))
   go_wp2
   go_meet
   rw[HT2.out] at hp2;exact⟨rfl,hp2,(KP.below hc1).trans hk2,(hbW.mono hBd).trans ((hc1.mono (by omega)).trans hb2)⟩
 case rest=>
  obtain⟨rfl,aO⟩:=hcut;have hkc:=aO.2.1;have m3:wc.cell? ⟨w.heap.size+1,3,none⟩=some (.slice A3 x.points.length c3):=(hkc.bk B1 (by decide) (by decide)).cell 3;have m4:wc.cell? ⟨w.heap.size+1,4,none⟩=some (.slice A4 x.ends.length c4):=(hkc.bk B1 (by decide) (by decide)).cell 4;have hkw:KP w wc:=(KP.below hbW).trans hkc;have hA3:=(hkw.sl PtR.ok h3).akf;have hA4:=(hkw.sl ahT.ok h4).aj8;have bu:=hd0 aO;clear q0 m0 m1 m2 aO;go_wp2_with (go_at_call 94;refine(Jk wc wc.heap.size A3 A4 x.points.length c3 x.ends.length c4 (iG x.points) (Jv _) x.ends hA3 hA4 (nr _) (by omega) (by omega)).mono ?_;rintro e w1 ⟨v,u,pb,eb,rfl,hov,hou,hPb,hEb,y1,y2,hb1⟩)
  obtain⟨Av,cv,rfl,hrv⟩:=Rd.ail hov;obtain⟨Eu,cu,rfl,-⟩:=Rd.ail hou;have hru:=jf hou;have xX:rq w W0 Bd g fc (txt++T1) w1:=⟨bu.out.1.below hb1,bu.out.2.1.trans (KP.below hb1),bu.out.2.2.trans (hb1.mono (nt (nt hBd z0) bu.out.2.1.size))⟩
  have hsz1:=xX.2.1.size;have hpI:=hd0 (adR h3);have hcl:Hid (∀pre y,pre++[y]<+:EZ y.2.2.2 (nX x.points.length 0 0 x.ends)->(pre.flatMap (ui x.points)).length+(ui x.points y).length<=T2.length):=fun pre y hy=>by
   have h1:=EG x.points x.ends y.2.2.2;rw[<-aba.out] at h1;obtain⟨r,hr⟩:=hy;rw[<-hr] at h1;have h2:=congrArg List.length h1;simp only[akT,la,akD,ak5,akR] at h2;omega
  clear hov hou m3 m4 hA3 hA4;refine(wpIn_wide (n:=20)).1 ?_;refine vP (d:=10) (by decide) (gf:=144) (lb:= #[.pointer (some ⟨pb,0,none⟩),.pointer (some ⟨eb,0,none⟩)]) rfl (enters_of Tryz.func144 (by kernel_rfl) rfl) (fun _=>rfl)
   (Qj w1 x.points.length x.ends.length pb eb cv cu Av Eu (iG x.points) (Jv _) x.ends hPb hrv hEb hru (by omega) (by omega))
   (fun h k=>h.trans k) (fun W l o o' h hc=>KC.put W l o o' h hc) (VC.putObj _ _ _)
   (fun pre W=>rq w W0 Bd g fc (txt++T1++pre.flatMap (ui x.points)) W) (Zh (fun pre=>txt++T1++pre.flatMap (ui x.points)) hsz1 (nt hBd z0)) (by simpa using xX) ?a1 ?assign ?body ?done
  case assign=>
   intro l2 y W2 K hK;simp only[Rl]
   gi_wp2
   exact hK
  case body=>
   rintro l2 pre ⟨idx,f,e,gg⟩ W2 zF ⟨hpx,hfe,Gm,hrd⟩;dsimp only at hfe Gm hrd ⊢;have hb5:=hcl.out pre (idx,f,e,gg) hpx;have hpW:W2.cell? ⟨w.heap.size,0,none⟩=some (.pointer (some ⟨g,0,none⟩)):=(zF.2.1.bk B0 (by decide) (by decide)).cell 0;have hsl:=YP hrd rfl hpI.out f e hfe Gm;have hTW:Tabs W2:=hT.below zF.2.2 hG;have hcy:=RD W2 Bd g fc (txt++T1++pre.flatMap (ui x.points)) (some ⟨gg,f*3,none⟩) (e+1 - f) (tu x.points f e) hTW zF.1 (nt (nt hBd z0) zF.2.1.size) hsl (by rw[Kz _ _ _ Gm];omega) (by
    have:ui x.points (idx,f,e,gg)=au eX ((tu x.points f e).map jb):=rfl;rw[<-this];simp only[la];omega)
   rw[Kz _ _ _ Gm] at hcy;have Hcy:=hd0 hcy;have ab5:=hd0 zF;clear hcy hsl hrd hpx zF hTW
   gi_wp2_with fail
   refine⟨trivial,rfl,?_⟩;refine(CallsIn.inRound l2 (callsIn_wide.2 Hcy.out)).mono ?_;rintro e5 W3 ⟨rfl,hp3,hk3,hb3⟩;have hout:Hid (rq w W0 Bd g fc (txt++T1++(pre++[(idx,f,e,gg)]).flatMap (ui x.points)) W3/\KC W2 W3/\KeepsOthers W2 W3):=by refine⟨⟨?_,ab5.out.2.1.trans hk3,ab5.out.2.2.trans hb3⟩,hk3.kc,hk3.others⟩;rw[akT,<-aky];simpa [ui] using hp3
   clear hp3 hk3 hb3
   gi_wp2
   exact hout.out
  case done=>
   rintro D ys W1 hD ⟨g2,hS⟩ xX hK;have xX:rq w W0 Bd g fc (txt++T1++T2) W1:=by rw[hS,EG,<-aba.out] at xX;exact xX
   clear hS;have qQ:=xX.2.1;have GU:KP w W1:=(KP.below hbW).trans qQ;have Yp:=qQ.bk B1 (by decide) (by decide);have Yf:=qQ.bk B0 (by decide) (by decide);have hsw:w.heap.size<=w1.heap.size:=nt z0 hsz1;have hBW1:Bd<=W1.heap.size:=nt (nt hBd z0) qQ.size;have l41:W1.cell? ⟨w.heap.size+1,5,none⟩=some (.slice A5 x.parts.length c5):=(qQ.bk B1 (by decide) (by decide)).cell 5;go_wp2_with fail
   go_loopw [41] (fun i wr=>∃k:Nat,k<=x.parts.length/\i= .int .i64 k/\rq w W1 Bd g fc (txt++T1++T2++(x.parts.take k).flatMap (nY gs)) wr) (fun i _=>x.parts.length - (intOf i).toNat)
   case atStart=>exact⟨0,nz _,rfl,⟨by simpa using xX.1,KP.refl _,xX.2.2⟩⟩
   case round=>
    obtain⟨k,hk,rfl,aO⟩:=hrel;by_cases hlt:k<x.parts.length
    ·have hkr:KP w wr:=GU.trans aO.2.1;have hkb:k<=10000000000:=nt (ak1 hlt) aev;obtain⟨b,o,y,rfl,-,hy,q0,q1,q2,r0,r1,r2⟩:=(hkr.sl ah6.ok h5).part hlt;have hsn:=hd0 (bH (nY gs) x.parts k y hy.out);have hle:=bC (nY gs) x.parts k y hy.out;obtain⟨y0,y1,y2⟩:=y;dsimp only at q0 q1 q2 r0 r1 r2;have hll:(txt++T1++T2++(x.parts.take k).flatMap (nY gs)).length+(au mY [bV gs y0,ag y1,ag y2]).length<=10000000000:=by have e:(nY gs) ⟨y0,y1,y2⟩=au mY [bV gs y0,ag y1,ag y2]:=rfl;rw[e] at hle;simp only[la];omega
     have Hy:=aO.2.1.bk Yf (by decide) (by decide);have hTr:Tabs wr:=hT.below aO.2.2 hG;have qY:PN wr g gs:=(hP.below hbW).kp hp0 aO.1 (qQ.trans aO.2.1);have iq:=nt (nt hBd z0) (qQ.trans aO.2.1).size;have bu:=hd0 aO;have hpr:=aO.1;clear hy hle aO hkr;go_wp2_with fail
     obtain⟨W2,hW2⟩:∃W2,wr.alloc (.cells #[.int .i64 y0,.int .i64 y1,.int .i64 y2] 87)=W2:=⟨_,rfl⟩
     rw[hW2];have hb0:Below wr.heap.size wr W2:=by rw[<-hW2];exact(akl _ _).alloc (nr _) _
     have BV:Bk W2 wr.heap.size 87 #[.int .i64 y0,.int .i64 y1,.int .i64 y2]:=by rw[<-hW2];exact Bk.new _ _ _
     have Ku:=hb0.size;clear hW2 q0 q1 q2;have BP:=Hy.below hb0;have hT2:=hTr.all hb0;have hPd:PN W2.drew g gs:=(qY.below hb0).below (akl _ _).drew;have uT:=hpr.below hb0;have p0:W2.cell? ⟨w.heap.size,0,none⟩=some (.pointer (some ⟨g,0,none⟩)):=BP.cell 0;have v0:W2.cell? ⟨wr.heap.size,0,none⟩=some (.int .i64 y0):=BV.cell 0;have v1:W2.cell? ⟨wr.heap.size,1,none⟩=some (.int .i64 y1):=BV.cell 1;have v2:W2.cell? ⟨wr.heap.size,2,none⟩=some (.int .i64 y2):=BV.cell 2
     go_region_held3 (fun w'=>w'.cell? ⟨w.heap.size,0,none⟩=some (.pointer (some ⟨g,0,none⟩))/\w'.cell? ⟨wr.heap.size,0,none⟩=some (.int .i64 y0)/\w'.cell? ⟨wr.heap.size,1,none⟩=some (.int .i64 y1)/\w'.cell? ⟨wr.heap.size,2,none⟩=some (.int .i64 y2))
      (first
       |exact⟨(hkz.bk (BP.below hc3) (by decide) (by decide)).cell 0,(hkz.bk (BV.below hc3) (by decide) (by decide)).cell 0,(hkz.bk (BV.below hc3) (by decide) (by decide)).cell 1,(hkz.bk (BV.below hc3) (by decide) (by decide)).cell 2⟩
       |exact⟨bU _ (ae hc3 p0),bU _ (ae hc3 v0),bU _ (ae hc3 v1),bU _ (ae hc3 v2)⟩
       |exact⟨ae hc3 p0,ae hc3 v0,ae hc3 v1,ae hc3 v2⟩
       |exact⟨ae hc2 p0,ae hc2 v0,ae hc2 v1,ae hc2 v2⟩
       |exact⟨ae hc1 p0,ae hc1 v0,ae hc1 v1,ae hc1 v2⟩
       |go_keep)
      (first
       |(go_at_call 47;refine(xG _ g gs y0 hT2.drew r0 hPd hgl).mono ?_;rintro e w1 ⟨rfl,hb1⟩;have hc1:=jF hb1;have z1:=hc1.size)
       |(go_at_call 42;refine(aS _ y1 (hT2.all hc1) r1).mono ?_;rintro e w2 ⟨rfl,hb2⟩;have hc2:=bt hc1 hb2;have z2:=hc2.size)
       |(go_at_call 42;refine(aS _ y2 (hT2.all hc2) r2).mono ?_;rintro e w3 ⟨rfl,hb3⟩;have hc3:=bt hc2 hb3;have z3:=hc3.size)
       |(go_at_call 41;refine(kH w3 w3.heap.size 3 rfl Bd g fc _ mY [bV gs y0,ag y1,ag y2] rfl (uT.below hc3) hll).mono ?_;rintro e wz ⟨rfl,hpz,hkz,hbz⟩))
     go_wp2;go_roundw
     case rel=>exact⟨k+1,by omega,by simp,by rw[hsn.out,<-aky];exact hpz,bu.out.2.1.trans ((KP.below (bt hb0 hc3)).trans hkz),bu.out.2.2.trans (((bt hb0 hc3).mono iq).trans hbz)⟩
     case measure=>simp[intOf];omega
    obtain rfl:k=x.parts.length:=by omega
    rw[akr] at aO;have bu:=hd0 aO;have l62:W1.cell? ⟨w.heap.size+1,6,none⟩=some (.slice A6 x.anchors.length c6):=(qQ.bk B1 (by decide) (by decide)).cell 6;have agV:wr.cell? ⟨w.heap.size+1,6,none⟩=some (.slice A6 x.anchors.length c6):=(aO.2.1.bk Yp (by decide) (by decide)).cell 6;go_wp2_with fail
    go_loopw [62] (fun i wr=>∃k:Nat,k<=x.anchors.length/\i= .int .i64 k/\rq w W1 Bd g fc (txt++T1++T2++x.parts.flatMap (nY gs)++(x.anchors.take k).flatMap qH) wr) (fun i _=>x.anchors.length - (intOf i).toNat)
    case atStart=>exact⟨0,nz _,rfl,by simpa using bu.out⟩
    case round=>
     obtain⟨k,hk,rfl,aO⟩:=hrel;by_cases hlt:k<x.anchors.length
     ·have hkr:KP w wr:=GU.trans aO.2.1;have hkb:k<=10000000000:=nt (ak1 hlt) aeU;obtain⟨b,o,y,rfl,-,hy,q0,q1,q2,q3,r0,r1,r2,r3⟩:=(hkr.sl ahY.ok h6).anchor hlt;have hsn:=hd0 (bH qH x.anchors k y hy.out);have hle:=bC qH x.anchors k y hy.out;obtain⟨y0,y1,y2,y3⟩:=y;dsimp only at q0 q1 q2 q3 r0 r1 r2 r3;have hll:(txt++T1++T2++x.parts.flatMap (nY gs)++(x.anchors.take k).flatMap qH).length+(au jd [pick anchorNames y0,ag y1,ag y2,ag y3]).length<=10000000000:=by have e:qH ⟨y0,y1,y2,y3⟩=au jd [pick anchorNames y0,ag y1,ag y2,ag y3]:=rfl;rw[e] at hle;simp only[la];omega
      have Hy:=aO.2.1.bk Yf (by decide) (by decide);have hTr:Tabs wr:=hT.below aO.2.2 hG;have qY:PN wr g gs:=(hP.below hbW).kp hp0 aO.1 (qQ.trans aO.2.1);have iq:=nt (nt hBd z0) (qQ.trans aO.2.1).size;have bu:=hd0 aO;have hpr:=aO.1;clear hy hle aO hkr;go_wp2_with fail
      obtain⟨W2,hW2⟩:∃W2,wr.alloc (.cells #[.int .i64 y0,.int .i64 y1,.int .i64 y2,.int .i64 y3] 89)=W2:=⟨_,rfl⟩
      rw[hW2];have hb0:Below wr.heap.size wr W2:=by rw[<-hW2];exact(akl _ _).alloc (nr _) _
      have BV:Bk W2 wr.heap.size 89 #[.int .i64 y0,.int .i64 y1,.int .i64 y2,.int .i64 y3]:=by rw[<-hW2];exact Bk.new _ _ _
      have Ku:=hb0.size;clear hW2 q0 q1 q2 q3;have BP:=Hy.below hb0;have hT2:=hTr.all hb0;have hPd:PN W2.drew g gs:=(qY.below hb0).below (akl _ _).drew;have uT:=hpr.below hb0;have p0:W2.cell? ⟨w.heap.size,0,none⟩=some (.pointer (some ⟨g,0,none⟩)):=BP.cell 0;have v0:W2.cell? ⟨wr.heap.size,0,none⟩=some (.int .i64 y0):=BV.cell 0;have v1:W2.cell? ⟨wr.heap.size,1,none⟩=some (.int .i64 y1):=BV.cell 1;have v2:W2.cell? ⟨wr.heap.size,2,none⟩=some (.int .i64 y2):=BV.cell 2;have v3:W2.cell? ⟨wr.heap.size,3,none⟩=some (.int .i64 y3):=BV.cell 3
      go_region_held3 (fun w'=>w'.cell? ⟨w.heap.size,0,none⟩=some (.pointer (some ⟨g,0,none⟩))/\w'.cell? ⟨wr.heap.size,0,none⟩=some (.int .i64 y0)/\w'.cell? ⟨wr.heap.size,1,none⟩=some (.int .i64 y1)/\w'.cell? ⟨wr.heap.size,2,none⟩=some (.int .i64 y2)/\w'.cell? ⟨wr.heap.size,3,none⟩=some (.int .i64 y3))
       (first
        |exact⟨(hkz.bk (BP.below hc4) (by decide) (by decide)).cell 0,(hkz.bk (BV.below hc4) (by decide) (by decide)).cell 0,(hkz.bk (BV.below hc4) (by decide) (by decide)).cell 1,(hkz.bk (BV.below hc4) (by decide) (by decide)).cell 2,(hkz.bk (BV.below hc4) (by decide) (by decide)).cell 3⟩
        |exact⟨bU _ (ae hc4 p0),bU _ (ae hc4 v0),bU _ (ae hc4 v1),bU _ (ae hc4 v2),bU _ (ae hc4 v3)⟩
        |exact⟨ae hc4 p0,ae hc4 v0,ae hc4 v1,ae hc4 v2,ae hc4 v3⟩
        |exact⟨ae hc3 p0,ae hc3 v0,ae hc3 v1,ae hc3 v2,ae hc3 v3⟩
        |exact⟨ae hc2 p0,ae hc2 v0,ae hc2 v1,ae hc2 v2,ae hc2 v3⟩
        |go_keep)
       (first
        |(go_at_call 96;refine(I8 _ y0 hT2.drew).mono ?_;rintro e w' ⟨rfl,rfl⟩)
        |(go_at_call 42;refine(aS _ y1 hT2.drew r1).mono ?_;rintro e w2 ⟨rfl,hb2⟩;have hc2:=jF hb2;have z2:=hc2.size)
        |(go_at_call 42;refine(aS _ y2 (hT2.all hc2) r2).mono ?_;rintro e w3 ⟨rfl,hb3⟩;have hc3:=bt hc2 hb3;have z3:=hc3.size)
        |(go_at_call 42;refine(aS _ y3 (hT2.all hc3) r3).mono ?_;rintro e w4 ⟨rfl,hb4⟩;have hc4:=bt hc3 hb4;have z4:=hc4.size)
        |(go_at_call 41;refine(kH w4 w4.heap.size 4 rfl Bd g fc _ jd [pick anchorNames y0,ag y1,ag y2,ag y3] rfl (uT.below hc4) hll).mono ?_;rintro e wz ⟨rfl,hpz,hkz,hbz⟩))
      go_wp2;go_roundw
      case rel=>exact⟨k+1,by omega,by simp,by rw[hsn.out,<-aky];exact hpz,bu.out.2.1.trans ((KP.below (bt hb0 hc4)).trans hkz),bu.out.2.2.trans (((bt hb0 hc4).mono iq).trans hbz)⟩
      case measure=>simp[intOf];omega
     obtain rfl:k=x.anchors.length:=by omega
     rw[akr] at aO;have bu:=hd0 aO;have l85:W1.cell? ⟨w.heap.size+1,7,none⟩=some (.slice A7 x.deltas.length c7):=(qQ.bk B1 (by decide) (by decide)).cell 7;have ahi:wr.cell? ⟨w.heap.size+1,7,none⟩=some (.slice A7 x.deltas.length c7):=(aO.2.1.bk Yp (by decide) (by decide)).cell 7;go_wp2_with fail
     go_loopw [85] (fun i wr=>∃k:Nat,k<=x.deltas.length/\i= .int .i64 k/\rq w W1 Bd g fc (txt++T1++T2++x.parts.flatMap (nY gs)++x.anchors.flatMap qH++(x.deltas.take k).flatMap yA) wr) (fun i _=>x.deltas.length - (intOf i).toNat)
     case atStart=>exact⟨0,nz _,rfl,by simpa using bu.out⟩
     case round=>
      obtain⟨k,hk,rfl,aO⟩:=hrel;by_cases hlt:k<x.deltas.length
      ·have hkr:KP w wr:=GU.trans aO.2.1;have hkb:k<=10000000000:=nt (ak1 hlt) afm;obtain⟨b,o,y,rfl,-,hy,q0,q1,q2,q3,r0,r1,r2,r3⟩:=(hkr.sl ah3.ok h7).delta hlt;have hsn:=hd0 (bH yA x.deltas k y hy.out);have hle:=bC yA x.deltas k y hy.out;obtain⟨y0,y1,y2,y3⟩:=y;dsimp only at q0 q1 q2 q3 r0 r1 r2 r3;have hll:(txt++T1++T2++x.parts.flatMap (nY gs)++x.anchors.flatMap qH++(x.deltas.take k).flatMap yA).length+(au kC [ag y0,ag y1,ag y2,ag y3]).length<=10000000000:=by have e:yA ⟨y0,y1,y2,y3⟩=au kC [ag y0,ag y1,ag y2,ag y3]:=rfl;rw[e] at hle;simp only[la];omega
       have Hy:=aO.2.1.bk Yf (by decide) (by decide);have hTr:Tabs wr:=hT.below aO.2.2 hG;have qY:PN wr g gs:=(hP.below hbW).kp hp0 aO.1 (qQ.trans aO.2.1);have iq:=nt (nt hBd z0) (qQ.trans aO.2.1).size;have bu:=hd0 aO;have hpr:=aO.1;clear hy hle aO hkr;go_wp2_with fail
       obtain⟨W2,hW2⟩:∃W2,wr.alloc (.cells #[.int .i64 y0,.int .i64 y1,.int .i64 y2,.int .i64 y3] 91)=W2:=⟨_,rfl⟩
       rw[hW2];have hb0:Below wr.heap.size wr W2:=by rw[<-hW2];exact(akl _ _).alloc (nr _) _
       have BV:Bk W2 wr.heap.size 91 #[.int .i64 y0,.int .i64 y1,.int .i64 y2,.int .i64 y3]:=by rw[<-hW2];exact Bk.new _ _ _
       have Ku:=hb0.size;clear hW2 q0 q1 q2 q3;have BP:=Hy.below hb0;have hT2:=hTr.all hb0;have hPd:PN W2.drew g gs:=(qY.below hb0).below (akl _ _).drew;have uT:=hpr.below hb0;have p0:W2.cell? ⟨w.heap.size,0,none⟩=some (.pointer (some ⟨g,0,none⟩)):=BP.cell 0;have v0:W2.cell? ⟨wr.heap.size,0,none⟩=some (.int .i64 y0):=BV.cell 0;have v1:W2.cell? ⟨wr.heap.size,1,none⟩=some (.int .i64 y1):=BV.cell 1;have v2:W2.cell? ⟨wr.heap.size,2,none⟩=some (.int .i64 y2):=BV.cell 2;have v3:W2.cell? ⟨wr.heap.size,3,none⟩=some (.int .i64 y3):=BV.cell 3
       go_region_held3 (fun w'=>w'.cell? ⟨w.heap.size,0,none⟩=some (.pointer (some ⟨g,0,none⟩))/\w'.cell? ⟨wr.heap.size,0,none⟩=some (.int .i64 y0)/\w'.cell? ⟨wr.heap.size,1,none⟩=some (.int .i64 y1)/\w'.cell? ⟨wr.heap.size,2,none⟩=some (.int .i64 y2)/\w'.cell? ⟨wr.heap.size,3,none⟩=some (.int .i64 y3))
        (first
         |exact⟨(hkz.bk (BP.below hc4) (by decide) (by decide)).cell 0,(hkz.bk (BV.below hc4) (by decide) (by decide)).cell 0,(hkz.bk (BV.below hc4) (by decide) (by decide)).cell 1,(hkz.bk (BV.below hc4) (by decide) (by decide)).cell 2,(hkz.bk (BV.below hc4) (by decide) (by decide)).cell 3⟩
         |exact⟨bU _ (ae hc4 p0),bU _ (ae hc4 v0),bU _ (ae hc4 v1),bU _ (ae hc4 v2),bU _ (ae hc4 v3)⟩
         |exact⟨ae hc4 p0,ae hc4 v0,ae hc4 v1,ae hc4 v2,ae hc4 v3⟩
         |exact⟨ae hc3 p0,ae hc3 v0,ae hc3 v1,ae hc3 v2,ae hc3 v3⟩
         |exact⟨ae hc2 p0,ae hc2 v0,ae hc2 v1,ae hc2 v2,ae hc2 v3⟩
         |exact⟨ae hc1 p0,ae hc1 v0,ae hc1 v1,ae hc1 v2,ae hc1 v3⟩
         |go_keep)
        (first
         |(go_at_call 42;refine(aS _ y0 hT2.drew r0).mono ?_;rintro e w1 ⟨rfl,hb1⟩;have hc1:=jF hb1;have z1:=hc1.size)
         |(go_at_call 42;refine(aS _ y1 (hT2.all hc1) r1).mono ?_;rintro e w2 ⟨rfl,hb2⟩;have hc2:=bt hc1 hb2;have z2:=hc2.size)
         |(go_at_call 42;refine(aS _ y2 (hT2.all hc2) r2).mono ?_;rintro e w3 ⟨rfl,hb3⟩;have hc3:=bt hc2 hb3;have z3:=hc3.size)
         |(go_at_call 42;refine(aS _ y3 (hT2.all hc3) r3).mono ?_;rintro e w4 ⟨rfl,hb4⟩;have hc4:=bt hc3 hb4;have z4:=hc4.size)
         |(go_at_call 41;refine(kH w4 w4.heap.size 4 rfl Bd g fc _ kC [ag y0,ag y1,ag y2,ag y3] rfl (uT.below hc4) hll).mono ?_;rintro e wz ⟨rfl,hpz,hkz,hbz⟩))
       go_wp2;go_roundw
       case rel=>exact⟨k+1,by omega,by simp,by rw[hsn.out,<-aky];exact hpz,bu.out.2.1.trans ((KP.below (bt hb0 hc4)).trans hkz),bu.out.2.2.trans (((bt hb0 hc4).mono iq).trans hbz)⟩
       case measure=>simp[intOf];omega
      obtain rfl:k=x.deltas.length:=by omega
      rw[akr] at aO;have bu:=hd0 aO;have l8:wr.cell? ⟨w.heap.size+1,8,none⟩=some (.slice A8 x.hint.length c8):=(aO.2.1.bk Yp (by decide) (by decide)).cell 8;have iq:=nt (nt hBd z0) (qQ.trans aO.2.1).size;have Hy:=aO.2.1.bk Yf (by decide) (by decide);have p0:wr.cell? ⟨w.heap.size,0,none⟩=some (.pointer (some ⟨g,0,none⟩)):=Hy.cell 0;have hTr:Tabs wr:=hT.below aO.2.2 hG;have h8r:=(GU.trans aO.2.1).sl ah5.ok h8;clear aO;by_cases h0:x.hint=[]
      ·have hz:BU x.hint=[]:=by rw[h0];rfl
       have hz0:¬(0<x.hint.length):=by rw[h0];simp
       have Hz:=hd0 hz;clear hz h0;go_wp2_with fail
       rw[Hz.out,akR];have hD2:wr.heap[D]? =some (.deferred (some [])):=(bu.out.2.1).same D _ hK trivial;refine⟨by simp,.inl ⟨_,_,rfl,run_takeDeferred hD2,?_⟩⟩;have hgr:=grownBy_putObj' wr D (.deferred none);refine⟨_,results_none rfl _ _ _,rfl,Me (by have:=bu.out.1;simpa using this) hgr (fun r e=>by cases e;exact⟨_,hD2,rfl⟩),MW (GU.trans (bu.out.2.1)) hgr (fun r e=>by cases e;exact nt hsw hD),(bu.out.2.2).grown hgr (by omega) (fun r e=>by cases e;omega)⟩
      have hz:BU x.hint=au kP (x.hint.map dw):=by unfold BU;rw[if_neg (by simpa using h0)]
      have hz0:0<x.hint.length:=ale.2 h0;have hll:(txt++T1++T2++x.parts.flatMap (nY gs)++x.anchors.flatMap qH++x.deltas.flatMap yA).length+(au kP (x.hint.map dw)).length<=1000000000000:=by rw[<-hz];simp only[la];omega
      have Hz:=hd0 hz;have hpr:=bu.out.1;clear hz h0;have hsd:Sl ah5 2 wr.drew (FT wr.drew) A8 x.hint:=(KP.below (akl _ _).drew).sl ah5.ok h8r;have zF:=bu.out;have BHr:=zF.2.1.bk Yp (by decide) (by decide);have hnl:Hid (x.hint.length=(x.hint.map dw).length):=hd0 (aks dw).symm;have YH:(x.hint.map dw).length<=1000000000000:=by rw[aks];omega
      go_wp2_with fail
      go_region_held3 (fun w'=>w'.cell? ⟨w.heap.size,0,none⟩=some (.pointer (some ⟨g,0,none⟩))/\w'.cell? ⟨w.heap.size+1,8,none⟩=some (.slice A8 x.hint.length c8))
       (first
        |exact⟨(hkz.bk (Hy.below hc1) (by decide) (by decide)).cell 0,(hkz.bk (BHr.below hc1) (by decide) (by decide)).cell 8⟩
        |exact⟨ae hc1 p0,ae hc1 l8⟩
        |go_keep)
       (first
        |(go_at_call 45;refine(vM _ A8 c8 x.hint hTr.drew hsd (by omega)).mono ?_;rintro e w1 ⟨Aw,cw,rfl,how,hb1⟩;have hc1:=jF hb1;have z1:=hc1.size)
        |(go_at_call 41;refine(nH w1 Bd g fc _ kP Aw cw x.hint.length (x.hint.map dw) hnl.out (hpr.below hc1) (kQ how) ⟨hll,YH⟩).mono ?_;rintro e wz ⟨rfl,hpz,hkz,hbz⟩))
      go_wp2_with fail
      rw[Hz.out];have Xd:=bu.out.2.1.trans ((KP.below hc1).trans hkz);have aei:=bu.out.2.2.trans ((hc1.mono iq).trans hbz);have hszz:=Xd.size;have hD2:wz.heap[D]? =some (.deferred (some [])):=(Xd).same D _ hK trivial;refine⟨by simp,.inl ⟨_,_,rfl,run_takeDeferred hD2,?_⟩⟩;have hgr:=grownBy_putObj' wz D (.deferred none);refine⟨_,results_none rfl _ _ _,rfl,Me (by have:=hpz;simpa using this) hgr (fun r e=>by cases e;exact⟨_,hD2,rfl⟩),MW (GU.trans (Xd)) hgr (fun r e=>by cases e;exact nt hsw hD),(aei).grown hgr (by omega) (fun r e=>by cases e;omega)⟩
end Go.Proofs.YtkijckccfookeaaGreatDoor
