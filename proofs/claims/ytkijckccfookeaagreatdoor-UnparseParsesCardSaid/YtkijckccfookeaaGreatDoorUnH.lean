/- Lemmas. -/
import Derived.Test.YtkijckccfookeaaGreatDoorU25
import Derived.Deep.DeepCutAuto
set_option linter.unusedVariables false
set_option linter.unusedSimpArgs false
set_option maxRecDepth 100000
set_option maxHeartbeats 32000000
namespace Go.Proofs.YtkijckccfookeaaGreatDoor
open Go.RowKit Go.Shelf Go.Sort
attribute [local go_sem] Oper.semAt_some
def Wv (x:akN):B:=ay dY (x.name::ah x.advance::if x.mark then [iM] else [])
def gT2 (x:akN):B:=(eX x.points 0 x.ends).flatMap (fun c=>ay fU (c.map jq))
def oM (gs:List akN)(p:Part):B:=ay qj [cO gs p.akY,ah p.x,ah p.y]
def sZ (a:ak7):B:=ay kM [pick anchorNames a.kind,ah a.cls,ah a.x,ah a.y]
def zM (d:Delta):B:=ay mO [ah d.region,ah d.point,ah d.x,ah d.y]
def Dw (l:List Ins):B:=if l.isEmpty then [] else ay nO (l.map dC)
theorem lT {α:Type}(f:α->B)(hf:∀x,1<=(f x).length)(l:List α):l.length<=(l.flatMap f).length:=by
 induction l with
 |nil=>simp
 |cons x l ih=>have:=hf x;rw[anM,la,aT];omega
theorem jA (f:B)(ws:List B):1<=(ay f ws).length:=by have:=kQ f ws;omega
theorem Bi (gs:List akN)(x:akN):dQ gs x=Wv x++gT2 x++x.parts.flatMap (oM gs)++x.anchors.flatMap sZ++x.deltas.flatMap zM++Dw x.hint:=rfl
theorem U9 (w:World)(Bd g:Nat)(fc:Nat->Value)(txt:B)(gs:List akN)(A3 A4 A5 A6 A7 A8:Option Addr)(c3 c4 c5 c6 c7 c8:Nat)(x:akN)(hT:Tabs w)(hG:nG<=Bd)(hP:PN w g gs)(hgl:gs.length<=1000000000000)(hp:Pr w Bd g fc txt)(hBd:Bd<=w.heap.size)
  (r1:I64 x.advance) (h3:Sl PtR 3 w (FT w) A3 x.points) (h4:Sl akL 1 w (FT w) A4 x.ends) (h5:Sl ala 3 w (FT w) A5 x.parts) (h6:Sl akX 4 w (FT w) A6 x.anchors) (h7:Sl ak2 4 w (FT w) A7 x.deltas) (h8:Sl akZ 2 w (FT w) A8 x.hint)
  (hpn:x.points.length<=1000000000) (hen:x.ends.length<=1000000000) (hhn:x.hint.length<=1000000000) (hlen:txt.length+(dQ gs x).length<=10000000000):
  Calls Tryz.prog 46 #[.pointer (some ⟨g,0,none⟩),.agg #[.string ⟨x.name.toArray⟩,.int .i64 x.advance,.bool x.mark,.slice A3 x.points.length c3,.slice A4 x.ends.length c4,.slice A5 x.parts.length c5,.slice A6 x.anchors.length c6,.slice A7 x.deltas.length c7,.slice A8 x.hint.length c8]] w
   fun e w'=>e= .returned (.tuple #[])/\Pr w' Bd g fc (txt++dQ gs x)/\KP w w'/\Below Bd w w':=by
 rw[Bi] at hlen ⊢;have afo:txt.length+(Wv x).length+(gT2 x).length+(x.parts.flatMap (oM gs)).length+(x.anchors.flatMap sZ).length+(x.deltas.flatMap zM).length+(Dw x.hint).length<=10000000000:=by simp only[la] at hlen;omega
 clear hlen;have HT1:Hid (ay dY (x.name::ah x.advance::if x.mark then [iM] else [])=Wv x):=rfl;have adL:Hid (gT2 x=(eX x.points 0 x.ends).flatMap (fun c=>ay fU (c.map jq))):=rfl;generalize Wv x=T1 at*
 generalize gT2 x=T2 at*
 have hlen1:txt.length+T1.length<=10000000000:=by omega
 have agh:x.parts.length<=10000000000:=by have:=lT (oM gs) (fun _=>jA _ _) x.parts;omega
 have af6:x.anchors.length<=10000000000:=by have:=lT sZ (fun _=>jA _ _) x.anchors;omega
 have ahv:x.deltas.length<=10000000000:=by have:=lT zM (fun _=>jA _ _) x.deltas;omega
 refine(callsIn_wide (n:=20)).1 ?_;refine callsIn_of_wp_marks Tryz.func46 rfl trivial ?_ rfl;refine wpIn_wide.2 ?_;simp only[Tryz.ntmps46,List.size_toArray,aT,ln,Nat.reduceAdd,Nat.reduceSub,Array.replicate_succ,Array.replicate_zero,List.push_toArray,List.append_toArray,an6,anL]
 go_upto_region 1 with fail
 obtain⟨W0,hW0⟩:∃W0,(w.alloc (.cells #[.pointer (some ⟨g,0,none⟩)] 125)).alloc (.cells #[.string ⟨x.name.toArray⟩,.int .i64 x.advance,.bool x.mark,.slice A3 x.points.length c3,.slice A4 x.ends.length c4,.slice A5 x.parts.length c5,.slice A6 x.anchors.length c6,.slice A7 x.deltas.length c7,.slice A8 x.hint.length c8] 59)=W0:=⟨_,rfl⟩
 rw[hW0];have hbW:Below w.heap.size w W0:=by rw[<-hW0];exact((ant _ _).alloc (af _) _).alloc (by simp) _
 have B0:Bk W0 w.heap.size 125 #[.pointer (some ⟨g,0,none⟩)]:=by rw[<-hW0];exact(bk1 _ _ _).alloc _
 have B1:Bk W0 (w.heap.size+1) 59 #[.string ⟨x.name.toArray⟩,.int .i64 x.advance,.bool x.mark,.slice A3 x.points.length c3,.slice A4 x.ends.length c4,.slice A5 x.parts.length c5,.slice A6 x.anchors.length c6,.slice A7 x.deltas.length c7,.slice A8 x.hint.length c8]:=by
  rw[<-hW0];have:=Bk.new (w.alloc (.cells #[.pointer (some ⟨g,0,none⟩)] 125)) 59 #[.string ⟨x.name.toArray⟩,.int .i64 x.advance,.bool x.mark,.slice A3 x.points.length c3,.slice A4 x.ends.length c4,.slice A5 x.parts.length c5,.slice A6 x.anchors.length c6,.slice A7 x.deltas.length c7,.slice A8 x.hint.length c8]
  rwa [World.size_alloc] at this
 have z0:=hbW.size;clear hW0;have hp0:=hp.below hbW;have hT0:=hT.all hbW;have q0:W0.cell? ⟨w.heap.size,0,none⟩=some (.pointer (some ⟨g,0,none⟩)):=B0.cell 0;have m0:W0.cell? ⟨w.heap.size+1,0,none⟩=some (.string ⟨x.name.toArray⟩):=B1.cell 0;have m1:W0.cell? ⟨w.heap.size+1,1,none⟩=some (.int .i64 x.advance):=B1.cell 1;have m2:W0.cell? ⟨w.heap.size+1,2,none⟩=some (.bool x.mark):=B1.cell 2;have z00:¬(w.heap.size+1=w.heap.size):=by omega
 go_upto_if 13 with fail
 go_cut [1,3,13] from 14 to 29 (fun _ s3 _ wx=>s3= .pointer (some ⟨w.heap.size+1,0,none⟩)/\tN w W0 Bd g fc (txt++T1) wx)
 case first=>
  have n1:=hd0 (fun w hT=>aX w x.advance hT r1);generalize ah x.advance=ta at*
  cases hmk:x.mark with
  |true=>
   rw[hmk] at m2 HT1;have HT2:Hid (ay dY [x.name,ta,iM]=T1):=hd0 (by have:=HT1.out;simpa using this);have hl2:txt.length+(ay dY [x.name,ta,iM]).length<=10000000000:=by rw[HT2.out];exact hlen1
   go_wp2_with fail
   go_region_held3 (fun w'=>w'.cell? ⟨w.heap.size,0,none⟩=some (.pointer (some ⟨g,0,none⟩))/\w'.cell? ⟨w.heap.size+1,0,none⟩=some (.string ⟨x.name.toArray⟩)/\w'.cell? ⟨w.heap.size+1,1,none⟩=some (.int .i64 x.advance))
    (first
     |exact⟨(hk2.bk (B0.below hc1) (by decide) (by decide)).cell 0,(hk2.bk (B1.below hc1) (by decide) (by decide)).cell 0,(hk2.bk (B1.below hc1) (by decide) (by decide)).cell 1⟩
     |exact⟨bZ _ (ae hc1 q0),bZ _ (ae hc1 m0),bZ _ (ae hc1 m1)⟩
     |exact⟨ae hc1 q0,ae hc1 m0,ae hc1 m1⟩
     |go_keep)
    (first
     |(go_at_call 42;refine(n1.out _ hT0.drew).mono ?_;rintro e w1 ⟨rfl,hb1⟩;have hc1:=jT hb1;have z1:=hc1.size)
     |(go_at_call 41;refine(lF w1 w1.heap.size 3 rfl Bd g fc txt dY [x.name,ta,iM] rfl (hp0.below hc1) hl2).mono ?_;rintro e w2 ⟨rfl,hp2,hk2,hb2⟩))
   go_wp2
   go_meet
   rw[HT2.out] at hp2;exact⟨rfl,hp2,(KP.below hc1).trans hk2,(hbW.mono hBd).trans ((hc1.mono (by omega)).trans hb2)⟩
  |false=>
   rw[hmk] at m2 HT1;have HT2:Hid (ay dY [x.name,ta]=T1):=hd0 (by have:=HT1.out;simpa using this);have hl2:txt.length+(ay dY [x.name,ta]).length<=10000000000:=by rw[HT2.out];exact hlen1
   go_wp2_with fail
   go_region_held3 (fun w'=>w'.cell? ⟨w.heap.size,0,none⟩=some (.pointer (some ⟨g,0,none⟩))/\w'.cell? ⟨w.heap.size+1,0,none⟩=some (.string ⟨x.name.toArray⟩)/\w'.cell? ⟨w.heap.size+1,1,none⟩=some (.int .i64 x.advance))
    (first
     |exact⟨(hk2.bk (B0.below hc1) (by decide) (by decide)).cell 0,(hk2.bk (B1.below hc1) (by decide) (by decide)).cell 0,(hk2.bk (B1.below hc1) (by decide) (by decide)).cell 1⟩
     |exact⟨bZ _ (ae hc1 q0),bZ _ (ae hc1 m0),bZ _ (ae hc1 m1)⟩
     |exact⟨ae hc1 q0,ae hc1 m0,ae hc1 m1⟩
     |go_keep)
    (first
     |(go_at_call 42;refine(n1.out _ hT0.drew).mono ?_;rintro e w1 ⟨rfl,hb1⟩;have hc1:=jT hb1;have z1:=hc1.size)
     |(go_at_call 41;refine(lF w1 w1.heap.size 2 rfl Bd g fc txt dY [x.name,ta] rfl (hp0.below hc1) hl2).mono ?_;rintro e w2 ⟨rfl,hp2,hk2,hb2⟩))
   go_wp2
   go_meet
   rw[HT2.out] at hp2;exact⟨rfl,hp2,(KP.below hc1).trans hk2,(hbW.mono hBd).trans ((hc1.mono (by omega)).trans hb2)⟩
 case rest=>
  obtain⟨rfl,aW⟩:=hcut;have hkc:=aW.2.1;have m3:wc.cell? ⟨w.heap.size+1,3,none⟩=some (.slice A3 x.points.length c3):=(hkc.bk B1 (by decide) (by decide)).cell 3;have m4:wc.cell? ⟨w.heap.size+1,4,none⟩=some (.slice A4 x.ends.length c4):=(hkc.bk B1 (by decide) (by decide)).cell 4;have hkw:KP w wc:=(KP.below hbW).trans hkc;have hA3:=(hkw.sl PtR.ok h3).ane;have hA4:=(hkw.sl akL.ok h4).am4;have bG:=hd0 aW;clear q0 m0 m1 m2 aW;go_wp2_with (go_at_call 94;refine(Le wc wc.heap.size A3 A4 x.points.length c3 x.ends.length c4 (iK x.points) (LU _) x.ends hA3 hA4 (af _) (by omega) (by omega)).mono ?_;rintro e w1 ⟨v,u,pb,eb,rfl,hov,hou,hPb,hEb,y1,y2,hb1⟩)
  obtain⟨Av,cv,rfl,hrv⟩:=Rd.alj hov;obtain⟨Eu,cu,rfl,-⟩:=Rd.alj hou;have hru:=jl hou;have zY:tN w W0 Bd g fc (txt++T1) w1:=⟨bG.out.1.below hb1,bG.out.2.1.trans (KP.below hb1),bG.out.2.2.trans (hb1.mono (nt (nt hBd z0) bG.out.2.1.size))⟩
  have hsz1:=zY.2.1.size;have hpI:=hd0 (ahR h3);have hcl:Hid (∀pre y,pre++[y]<+:GU y.2.2.2 (oh x.points.length 0 0 x.ends)->(pre.flatMap (vT x.points)).length+(vT x.points y).length<=T2.length):=fun pre y hy=>by
   have h1:=GH x.points x.ends y.2.2.2;rw[<-adL.out] at h1;obtain⟨r,hr⟩:=hy;rw[<-hr] at h1;have h2:=congrArg List.length h1;simp only[an2,la,anM,aoe,an0] at h2;omega
  clear hov hou m3 m4 hA3 hA4;refine(wpIn_wide (n:=20)).1 ?_;refine xP (d:=10) (by decide) (gf:=144) (lb:= #[.pointer (some ⟨pb,0,none⟩),.pointer (some ⟨eb,0,none⟩)]) rfl (enters_of Tryz.func144 (by kernel_rfl) rfl) (fun _=>rfl)
   (Ve w1 x.points.length x.ends.length pb eb cv cu Av Eu (iK x.points) (LU _) x.ends hPb hrv hEb hru (by omega) (by omega))
   (fun h k=>h.trans k) (fun W l o o' h hc=>KC.put W l o o' h hc) (VC.putObj _ _ _)
   (fun pre W=>tN w W0 Bd g fc (txt++T1++pre.flatMap (vT x.points)) W) (acn (fun pre=>txt++T1++pre.flatMap (vT x.points)) hsz1 (nt hBd z0)) (by simpa using zY) ?a1 ?assign ?body ?done
  case assign=>
   intro l2 y W2 K hK;simp only[UC]
   gi_wp2
   exact hK
  case body=>
   rintro l2 pre ⟨idx,f,e,gg⟩ W2 CW ⟨hpx,hfe,Vf,hrd⟩;dsimp only at hfe Vf hrd ⊢;have hb5:=hcl.out pre (idx,f,e,gg) hpx;have hpW:W2.cell? ⟨w.heap.size,0,none⟩=some (.pointer (some ⟨g,0,none⟩)):=(CW.2.1.bk B0 (by decide) (by decide)).cell 0;have hsl:=ab6 hrd rfl hpI.out f e hfe Vf;have hTW:Tabs W2:=hT.below CW.2.2 hG;have hcy:=TD W2 Bd g fc (txt++T1++pre.flatMap (vT x.points)) (some ⟨gg,f*3,none⟩) (e+1 - f) (uZ x.points f e) hTW CW.1 (nt (nt hBd z0) CW.2.1.size) hsl (by rw[Pm _ _ _ Vf];omega) (by
    have:vT x.points (idx,f,e,gg)=ay fU ((uZ x.points f e).map jq):=rfl;rw[<-this];simp only[la];omega)
   rw[Pm _ _ _ Vf] at hcy;have Hcy:=hd0 hcy;have ae8:=hd0 CW;clear hcy hsl hrd hpx CW hTW
   gi_wp2_with fail
   refine⟨trivial,rfl,?_⟩;refine(CallsIn.inRound l2 (callsIn_wide.2 Hcy.out)).mono ?_;rintro e5 W3 ⟨rfl,hp3,hk3,hb3⟩;have hout:Hid (tN w W0 Bd g fc (txt++T1++(pre++[(idx,f,e,gg)]).flatMap (vT x.points)) W3/\KC W2 W3/\KeepsOthers W2 W3):=by refine⟨⟨?_,ae8.out.2.1.trans hk3,ae8.out.2.2.trans hb3⟩,hk3.kc,hk3.others⟩;rw[an2,<-anH];simpa [vT] using hp3
   clear hp3 hk3 hb3
   gi_wp2
   exact hout.out
  case done=>
   rintro D ys W1 hD ⟨g2,hS⟩ zY hK;have zY:tN w W0 Bd g fc (txt++T1++T2) W1:=by rw[hS,GH,<-adL.out] at zY;exact zY
   clear hS;have rD:=zY.2.1;have Jy:KP w W1:=(KP.below hbW).trans rD;have BW1:=rD.bk B1 (by decide) (by decide);have BP1:=rD.bk B0 (by decide) (by decide);have hsw:w.heap.size<=w1.heap.size:=nt z0 hsz1;have hBW1:Bd<=W1.heap.size:=nt (nt hBd z0) rD.size;have l41:W1.cell? ⟨w.heap.size+1,5,none⟩=some (.slice A5 x.parts.length c5):=(rD.bk B1 (by decide) (by decide)).cell 5;go_wp2_with fail
   go_loopw [41] (fun i wr=>∃k:Nat,k<=x.parts.length/\i= .int .i64 k/\tN w W1 Bd g fc (txt++T1++T2++(x.parts.take k).flatMap (oM gs)) wr) (fun i _=>x.parts.length - (intOf i).toNat)
   case atStart=>exact⟨0,nz _,rfl,⟨by simpa using zY.1,KP.refl _,zY.2.2⟩⟩
   case round=>
    obtain⟨k,hk,rfl,aW⟩:=hrel;by_cases hlt:k<x.parts.length
    ·have hkr:KP w wr:=Jy.trans aW.2.1;have hkb:k<=10000000000:=nt (aoa hlt) agh;obtain⟨b,o,y,rfl,-,hy,q0,q1,q2,r0,r1,r2⟩:=(hkr.sl ala.ok h5).part hlt;have hsn:=hd0 (bM (oM gs) x.parts k y hy.out);have hle:=bH (oM gs) x.parts k y hy.out;obtain⟨y0,y1,y2⟩:=y;dsimp only at q0 q1 q2 r0 r1 r2;have hll:(txt++T1++T2++(x.parts.take k).flatMap (oM gs)).length+(ay qj [cO gs y0,ah y1,ah y2]).length<=10000000000:=by have e:(oM gs) ⟨y0,y1,y2⟩=ay qj [cO gs y0,ah y1,ah y2]:=rfl;rw[e] at hle;simp only[la];omega
     have KG:=aW.2.1.bk BP1 (by decide) (by decide);have hTr:Tabs wr:=hT.below aW.2.2 hG;have rZ:PN wr g gs:=(hP.below hbW).kp hp0 aW.1 (rD.trans aW.2.1);have jI:=nt (nt hBd z0) (rD.trans aW.2.1).size;have bG:=hd0 aW;have hpr:=aW.1;clear hy hle aW hkr;go_wp2_with fail
     obtain⟨W2,hW2⟩:∃W2,wr.alloc (.cells #[.int .i64 y0,.int .i64 y1,.int .i64 y2] 87)=W2:=⟨_,rfl⟩
     rw[hW2];have hb0:Below wr.heap.size wr W2:=by rw[<-hW2];exact(ant _ _).alloc (af _) _
     have BV:Bk W2 wr.heap.size 87 #[.int .i64 y0,.int .i64 y1,.int .i64 y2]:=by rw[<-hW2];exact Bk.new _ _ _
     have NZ:=hb0.size;clear hW2 q0 q1 q2;have BP:=KG.below hb0;have hT2:=hTr.all hb0;have hPd:PN W2.drew g gs:=(rZ.below hb0).below (ant _ _).drew;have wU:=hpr.below hb0;have p0:W2.cell? ⟨w.heap.size,0,none⟩=some (.pointer (some ⟨g,0,none⟩)):=BP.cell 0;have v0:W2.cell? ⟨wr.heap.size,0,none⟩=some (.int .i64 y0):=BV.cell 0;have v1:W2.cell? ⟨wr.heap.size,1,none⟩=some (.int .i64 y1):=BV.cell 1;have v2:W2.cell? ⟨wr.heap.size,2,none⟩=some (.int .i64 y2):=BV.cell 2
     go_region_held3 (fun w'=>w'.cell? ⟨w.heap.size,0,none⟩=some (.pointer (some ⟨g,0,none⟩))/\w'.cell? ⟨wr.heap.size,0,none⟩=some (.int .i64 y0)/\w'.cell? ⟨wr.heap.size,1,none⟩=some (.int .i64 y1)/\w'.cell? ⟨wr.heap.size,2,none⟩=some (.int .i64 y2))
      (first
       |exact⟨(hkz.bk (BP.below hc3) (by decide) (by decide)).cell 0,(hkz.bk (BV.below hc3) (by decide) (by decide)).cell 0,(hkz.bk (BV.below hc3) (by decide) (by decide)).cell 1,(hkz.bk (BV.below hc3) (by decide) (by decide)).cell 2⟩
       |exact⟨bZ _ (ae hc3 p0),bZ _ (ae hc3 v0),bZ _ (ae hc3 v1),bZ _ (ae hc3 v2)⟩
       |exact⟨ae hc3 p0,ae hc3 v0,ae hc3 v1,ae hc3 v2⟩
       |exact⟨ae hc2 p0,ae hc2 v0,ae hc2 v1,ae hc2 v2⟩
       |exact⟨ae hc1 p0,ae hc1 v0,ae hc1 v1,ae hc1 v2⟩
       |go_keep)
      (first
       |(go_at_call 47;refine(Ak _ g gs y0 hT2.drew r0 hPd hgl).mono ?_;rintro e w1 ⟨rfl,hb1⟩;have hc1:=jT hb1;have z1:=hc1.size)
       |(go_at_call 42;refine(aX _ y1 (hT2.all hc1) r1).mono ?_;rintro e w2 ⟨rfl,hb2⟩;have hc2:=bt hc1 hb2;have z2:=hc2.size)
       |(go_at_call 42;refine(aX _ y2 (hT2.all hc2) r2).mono ?_;rintro e w3 ⟨rfl,hb3⟩;have hc3:=bt hc2 hb3;have z3:=hc3.size)
       |(go_at_call 41;refine(lF w3 w3.heap.size 3 rfl Bd g fc _ qj [cO gs y0,ah y1,ah y2] rfl (wU.below hc3) hll).mono ?_;rintro e wz ⟨rfl,hpz,hkz,hbz⟩))
     go_wp2;go_roundw
     case rel=>exact⟨k+1,by omega,by simp,by rw[hsn.out,<-anH];exact hpz,bG.out.2.1.trans ((KP.below (bt hb0 hc3)).trans hkz),bG.out.2.2.trans (((bt hb0 hc3).mono jI).trans hbz)⟩
     case measure=>simp[intOf];omega
    obtain rfl:k=x.parts.length:=by omega
    rw[anA] at aW;have bG:=hd0 aW;have l62:W1.cell? ⟨w.heap.size+1,6,none⟩=some (.slice A6 x.anchors.length c6):=(rD.bk B1 (by decide) (by decide)).cell 6;have ajL:wr.cell? ⟨w.heap.size+1,6,none⟩=some (.slice A6 x.anchors.length c6):=(aW.2.1.bk BW1 (by decide) (by decide)).cell 6;go_wp2_with fail
    go_loopw [62] (fun i wr=>∃k:Nat,k<=x.anchors.length/\i= .int .i64 k/\tN w W1 Bd g fc (txt++T1++T2++x.parts.flatMap (oM gs)++(x.anchors.take k).flatMap sZ) wr) (fun i _=>x.anchors.length - (intOf i).toNat)
    case atStart=>exact⟨0,nz _,rfl,by simpa using bG.out⟩
    case round=>
     obtain⟨k,hk,rfl,aW⟩:=hrel;by_cases hlt:k<x.anchors.length
     ·have hkr:KP w wr:=Jy.trans aW.2.1;have hkb:k<=10000000000:=nt (aoa hlt) af6;obtain⟨b,o,y,rfl,-,hy,q0,q1,q2,q3,r0,r1,r2,r3⟩:=(hkr.sl akX.ok h6).anchor hlt;have hsn:=hd0 (bM sZ x.anchors k y hy.out);have hle:=bH sZ x.anchors k y hy.out;obtain⟨y0,y1,y2,y3⟩:=y;dsimp only at q0 q1 q2 q3 r0 r1 r2 r3;have hll:(txt++T1++T2++x.parts.flatMap (oM gs)++(x.anchors.take k).flatMap sZ).length+(ay kM [pick anchorNames y0,ah y1,ah y2,ah y3]).length<=10000000000:=by have e:sZ ⟨y0,y1,y2,y3⟩=ay kM [pick anchorNames y0,ah y1,ah y2,ah y3]:=rfl;rw[e] at hle;simp only[la];omega
      have KG:=aW.2.1.bk BP1 (by decide) (by decide);have hTr:Tabs wr:=hT.below aW.2.2 hG;have rZ:PN wr g gs:=(hP.below hbW).kp hp0 aW.1 (rD.trans aW.2.1);have jI:=nt (nt hBd z0) (rD.trans aW.2.1).size;have bG:=hd0 aW;have hpr:=aW.1;clear hy hle aW hkr;go_wp2_with fail
      obtain⟨W2,hW2⟩:∃W2,wr.alloc (.cells #[.int .i64 y0,.int .i64 y1,.int .i64 y2,.int .i64 y3] 89)=W2:=⟨_,rfl⟩
      rw[hW2];have hb0:Below wr.heap.size wr W2:=by rw[<-hW2];exact(ant _ _).alloc (af _) _
      have BV:Bk W2 wr.heap.size 89 #[.int .i64 y0,.int .i64 y1,.int .i64 y2,.int .i64 y3]:=by rw[<-hW2];exact Bk.new _ _ _
      have NZ:=hb0.size;clear hW2 q0 q1 q2 q3;have BP:=KG.below hb0;have hT2:=hTr.all hb0;have hPd:PN W2.drew g gs:=(rZ.below hb0).below (ant _ _).drew;have wU:=hpr.below hb0;have p0:W2.cell? ⟨w.heap.size,0,none⟩=some (.pointer (some ⟨g,0,none⟩)):=BP.cell 0;have v0:W2.cell? ⟨wr.heap.size,0,none⟩=some (.int .i64 y0):=BV.cell 0;have v1:W2.cell? ⟨wr.heap.size,1,none⟩=some (.int .i64 y1):=BV.cell 1;have v2:W2.cell? ⟨wr.heap.size,2,none⟩=some (.int .i64 y2):=BV.cell 2;have v3:W2.cell? ⟨wr.heap.size,3,none⟩=some (.int .i64 y3):=BV.cell 3
      go_region_held3 (fun w'=>w'.cell? ⟨w.heap.size,0,none⟩=some (.pointer (some ⟨g,0,none⟩))/\w'.cell? ⟨wr.heap.size,0,none⟩=some (.int .i64 y0)/\w'.cell? ⟨wr.heap.size,1,none⟩=some (.int .i64 y1)/\w'.cell? ⟨wr.heap.size,2,none⟩=some (.int .i64 y2)/\w'.cell? ⟨wr.heap.size,3,none⟩=some (.int .i64 y3))
       (first
        |exact⟨(hkz.bk (BP.below hc4) (by decide) (by decide)).cell 0,(hkz.bk (BV.below hc4) (by decide) (by decide)).cell 0,(hkz.bk (BV.below hc4) (by decide) (by decide)).cell 1,(hkz.bk (BV.below hc4) (by decide) (by decide)).cell 2,(hkz.bk (BV.below hc4) (by decide) (by decide)).cell 3⟩
        |exact⟨bZ _ (ae hc4 p0),bZ _ (ae hc4 v0),bZ _ (ae hc4 v1),bZ _ (ae hc4 v2),bZ _ (ae hc4 v3)⟩
        |exact⟨ae hc4 p0,ae hc4 v0,ae hc4 v1,ae hc4 v2,ae hc4 v3⟩
        |exact⟨ae hc3 p0,ae hc3 v0,ae hc3 v1,ae hc3 v2,ae hc3 v3⟩
        |exact⟨ae hc2 p0,ae hc2 v0,ae hc2 v1,ae hc2 v2,ae hc2 v3⟩
        |go_keep)
       (first
        |(go_at_call 96;refine(Ld _ y0 hT2.drew).mono ?_;rintro e w' ⟨rfl,rfl⟩)
        |(go_at_call 42;refine(aX _ y1 hT2.drew r1).mono ?_;rintro e w2 ⟨rfl,hb2⟩;have hc2:=jT hb2;have z2:=hc2.size)
        |(go_at_call 42;refine(aX _ y2 (hT2.all hc2) r2).mono ?_;rintro e w3 ⟨rfl,hb3⟩;have hc3:=bt hc2 hb3;have z3:=hc3.size)
        |(go_at_call 42;refine(aX _ y3 (hT2.all hc3) r3).mono ?_;rintro e w4 ⟨rfl,hb4⟩;have hc4:=bt hc3 hb4;have z4:=hc4.size)
        |(go_at_call 41;refine(lF w4 w4.heap.size 4 rfl Bd g fc _ kM [pick anchorNames y0,ah y1,ah y2,ah y3] rfl (wU.below hc4) hll).mono ?_;rintro e wz ⟨rfl,hpz,hkz,hbz⟩))
      go_wp2;go_roundw
      case rel=>exact⟨k+1,by omega,by simp,by rw[hsn.out,<-anH];exact hpz,bG.out.2.1.trans ((KP.below (bt hb0 hc4)).trans hkz),bG.out.2.2.trans (((bt hb0 hc4).mono jI).trans hbz)⟩
      case measure=>simp[intOf];omega
     obtain rfl:k=x.anchors.length:=by omega
     rw[anA] at aW;have bG:=hd0 aW;have l85:W1.cell? ⟨w.heap.size+1,7,none⟩=some (.slice A7 x.deltas.length c7):=(rD.bk B1 (by decide) (by decide)).cell 7;have akc:wr.cell? ⟨w.heap.size+1,7,none⟩=some (.slice A7 x.deltas.length c7):=(aW.2.1.bk BW1 (by decide) (by decide)).cell 7;go_wp2_with fail
     go_loopw [85] (fun i wr=>∃k:Nat,k<=x.deltas.length/\i= .int .i64 k/\tN w W1 Bd g fc (txt++T1++T2++x.parts.flatMap (oM gs)++x.anchors.flatMap sZ++(x.deltas.take k).flatMap zM) wr) (fun i _=>x.deltas.length - (intOf i).toNat)
     case atStart=>exact⟨0,nz _,rfl,by simpa using bG.out⟩
     case round=>
      obtain⟨k,hk,rfl,aW⟩:=hrel;by_cases hlt:k<x.deltas.length
      ·have hkr:KP w wr:=Jy.trans aW.2.1;have hkb:k<=10000000000:=nt (aoa hlt) ahv;obtain⟨b,o,y,rfl,-,hy,q0,q1,q2,q3,r0,r1,r2,r3⟩:=(hkr.sl ak2.ok h7).delta hlt;have hsn:=hd0 (bM zM x.deltas k y hy.out);have hle:=bH zM x.deltas k y hy.out;obtain⟨y0,y1,y2,y3⟩:=y;dsimp only at q0 q1 q2 q3 r0 r1 r2 r3;have hll:(txt++T1++T2++x.parts.flatMap (oM gs)++x.anchors.flatMap sZ++(x.deltas.take k).flatMap zM).length+(ay mO [ah y0,ah y1,ah y2,ah y3]).length<=10000000000:=by have e:zM ⟨y0,y1,y2,y3⟩=ay mO [ah y0,ah y1,ah y2,ah y3]:=rfl;rw[e] at hle;simp only[la];omega
       have KG:=aW.2.1.bk BP1 (by decide) (by decide);have hTr:Tabs wr:=hT.below aW.2.2 hG;have rZ:PN wr g gs:=(hP.below hbW).kp hp0 aW.1 (rD.trans aW.2.1);have jI:=nt (nt hBd z0) (rD.trans aW.2.1).size;have bG:=hd0 aW;have hpr:=aW.1;clear hy hle aW hkr;go_wp2_with fail
       obtain⟨W2,hW2⟩:∃W2,wr.alloc (.cells #[.int .i64 y0,.int .i64 y1,.int .i64 y2,.int .i64 y3] 91)=W2:=⟨_,rfl⟩
       rw[hW2];have hb0:Below wr.heap.size wr W2:=by rw[<-hW2];exact(ant _ _).alloc (af _) _
       have BV:Bk W2 wr.heap.size 91 #[.int .i64 y0,.int .i64 y1,.int .i64 y2,.int .i64 y3]:=by rw[<-hW2];exact Bk.new _ _ _
       have NZ:=hb0.size;clear hW2 q0 q1 q2 q3;have BP:=KG.below hb0;have hT2:=hTr.all hb0;have hPd:PN W2.drew g gs:=(rZ.below hb0).below (ant _ _).drew;have wU:=hpr.below hb0;have p0:W2.cell? ⟨w.heap.size,0,none⟩=some (.pointer (some ⟨g,0,none⟩)):=BP.cell 0;have v0:W2.cell? ⟨wr.heap.size,0,none⟩=some (.int .i64 y0):=BV.cell 0;have v1:W2.cell? ⟨wr.heap.size,1,none⟩=some (.int .i64 y1):=BV.cell 1;have v2:W2.cell? ⟨wr.heap.size,2,none⟩=some (.int .i64 y2):=BV.cell 2;have v3:W2.cell? ⟨wr.heap.size,3,none⟩=some (.int .i64 y3):=BV.cell 3
       go_region_held3 (fun w'=>w'.cell? ⟨w.heap.size,0,none⟩=some (.pointer (some ⟨g,0,none⟩))/\w'.cell? ⟨wr.heap.size,0,none⟩=some (.int .i64 y0)/\w'.cell? ⟨wr.heap.size,1,none⟩=some (.int .i64 y1)/\w'.cell? ⟨wr.heap.size,2,none⟩=some (.int .i64 y2)/\w'.cell? ⟨wr.heap.size,3,none⟩=some (.int .i64 y3))
        (first
         |exact⟨(hkz.bk (BP.below hc4) (by decide) (by decide)).cell 0,(hkz.bk (BV.below hc4) (by decide) (by decide)).cell 0,(hkz.bk (BV.below hc4) (by decide) (by decide)).cell 1,(hkz.bk (BV.below hc4) (by decide) (by decide)).cell 2,(hkz.bk (BV.below hc4) (by decide) (by decide)).cell 3⟩
         |exact⟨bZ _ (ae hc4 p0),bZ _ (ae hc4 v0),bZ _ (ae hc4 v1),bZ _ (ae hc4 v2),bZ _ (ae hc4 v3)⟩
         |exact⟨ae hc4 p0,ae hc4 v0,ae hc4 v1,ae hc4 v2,ae hc4 v3⟩
         |exact⟨ae hc3 p0,ae hc3 v0,ae hc3 v1,ae hc3 v2,ae hc3 v3⟩
         |exact⟨ae hc2 p0,ae hc2 v0,ae hc2 v1,ae hc2 v2,ae hc2 v3⟩
         |exact⟨ae hc1 p0,ae hc1 v0,ae hc1 v1,ae hc1 v2,ae hc1 v3⟩
         |go_keep)
        (first
         |(go_at_call 42;refine(aX _ y0 hT2.drew r0).mono ?_;rintro e w1 ⟨rfl,hb1⟩;have hc1:=jT hb1;have z1:=hc1.size)
         |(go_at_call 42;refine(aX _ y1 (hT2.all hc1) r1).mono ?_;rintro e w2 ⟨rfl,hb2⟩;have hc2:=bt hc1 hb2;have z2:=hc2.size)
         |(go_at_call 42;refine(aX _ y2 (hT2.all hc2) r2).mono ?_;rintro e w3 ⟨rfl,hb3⟩;have hc3:=bt hc2 hb3;have z3:=hc3.size)
         |(go_at_call 42;refine(aX _ y3 (hT2.all hc3) r3).mono ?_;rintro e w4 ⟨rfl,hb4⟩;have hc4:=bt hc3 hb4;have z4:=hc4.size)
         |(go_at_call 41;refine(lF w4 w4.heap.size 4 rfl Bd g fc _ mO [ah y0,ah y1,ah y2,ah y3] rfl (wU.below hc4) hll).mono ?_;rintro e wz ⟨rfl,hpz,hkz,hbz⟩))
       go_wp2;go_roundw
       case rel=>exact⟨k+1,by omega,by simp,by rw[hsn.out,<-anH];exact hpz,bG.out.2.1.trans ((KP.below (bt hb0 hc4)).trans hkz),bG.out.2.2.trans (((bt hb0 hc4).mono jI).trans hbz)⟩
       case measure=>simp[intOf];omega
      obtain rfl:k=x.deltas.length:=by omega
      rw[anA] at aW;have bG:=hd0 aW;have l8:wr.cell? ⟨w.heap.size+1,8,none⟩=some (.slice A8 x.hint.length c8):=(aW.2.1.bk BW1 (by decide) (by decide)).cell 8;have jI:=nt (nt hBd z0) (rD.trans aW.2.1).size;have KG:=aW.2.1.bk BP1 (by decide) (by decide);have p0:wr.cell? ⟨w.heap.size,0,none⟩=some (.pointer (some ⟨g,0,none⟩)):=KG.cell 0;have hTr:Tabs wr:=hT.below aW.2.2 hG;have h8r:=(Jy.trans aW.2.1).sl akZ.ok h8;clear aW;by_cases h0:x.hint=[]
      ·have hz:Dw x.hint=[]:=by rw[h0];rfl
       have hz0:¬(0<x.hint.length):=by rw[h0];simp
       have Hz:=hd0 hz;clear hz h0;go_wp2_with fail
       rw[Hz.out,an0];have hD2:wr.heap[D]? =some (.deferred (some [])):=(bG.out.2.1).same D _ hK trivial;refine⟨by simp,.inl ⟨_,_,rfl,run_takeDeferred hD2,?_⟩⟩;have hgr:=grownBy_putObj' wr D (.deferred none);refine⟨_,results_none rfl _ _ _,rfl,MB (by have:=bG.out.1;simpa using this) hgr (fun r e=>by cases e;exact⟨_,hD2,rfl⟩),LX (Jy.trans (bG.out.2.1)) hgr (fun r e=>by cases e;exact nt hsw hD),(bG.out.2.2).grown hgr (by omega) (fun r e=>by cases e;omega)⟩
      have hz:Dw x.hint=ay nO (x.hint.map dC):=by unfold Dw;rw[if_neg (by simpa using h0)]
      have hz0:0<x.hint.length:=aok.2 h0;have hll:(txt++T1++T2++x.parts.flatMap (oM gs)++x.anchors.flatMap sZ++x.deltas.flatMap zM).length+(ay nO (x.hint.map dC)).length<=1000000000000:=by rw[<-hz];simp only[la];omega
      have Hz:=hd0 hz;have hpr:=bG.out.1;clear hz h0;have hsd:Sl akZ 2 wr.drew (FT wr.drew) A8 x.hint:=(KP.below (ant _ _).drew).sl akZ.ok h8r;have CW:=bG.out;have BHr:=CW.2.1.bk BW1 (by decide) (by decide);have hnl:Hid (x.hint.length=(x.hint.map dC).length):=hd0 (anB dC).symm;have hhw:(x.hint.map dC).length<=1000000000000:=by rw[anB];omega
      go_wp2_with fail
      go_region_held3 (fun w'=>w'.cell? ⟨w.heap.size,0,none⟩=some (.pointer (some ⟨g,0,none⟩))/\w'.cell? ⟨w.heap.size+1,8,none⟩=some (.slice A8 x.hint.length c8))
       (first
        |exact⟨(hkz.bk (KG.below hc1) (by decide) (by decide)).cell 0,(hkz.bk (BHr.below hc1) (by decide) (by decide)).cell 8⟩
        |exact⟨ae hc1 p0,ae hc1 l8⟩
        |go_keep)
       (first
        |(go_at_call 45;refine(xu _ A8 c8 x.hint hTr.drew hsd (by omega)).mono ?_;rintro e w1 ⟨Aw,cw,rfl,how,hb1⟩;have hc1:=jT hb1;have z1:=hc1.size)
        |(go_at_call 41;refine(ou w1 Bd g fc _ nO Aw cw x.hint.length (x.hint.map dC) hnl.out (hpr.below hc1) (lN how) ⟨hll,hhw⟩).mono ?_;rintro e wz ⟨rfl,hpz,hkz,hbz⟩))
      go_wp2_with fail
      rw[Hz.out];have Zn:=bG.out.2.1.trans ((KP.below hc1).trans hkz);have afZ:=bG.out.2.2.trans ((hc1.mono jI).trans hbz);have hszz:=Zn.size;have hD2:wz.heap[D]? =some (.deferred (some [])):=(Zn).same D _ hK trivial;refine⟨by simp,.inl ⟨_,_,rfl,run_takeDeferred hD2,?_⟩⟩;have hgr:=grownBy_putObj' wz D (.deferred none);refine⟨_,results_none rfl _ _ _,rfl,MB (by have:=hpz;simpa using this) hgr (fun r e=>by cases e;exact⟨_,hD2,rfl⟩),LX (Jy.trans (Zn)) hgr (fun r e=>by cases e;exact nt hsw hD),(afZ).grown hgr (by omega) (fun r e=>by cases e;omega)⟩
end Go.Proofs.YtkijckccfookeaaGreatDoor
