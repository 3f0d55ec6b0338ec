/- Lemmas. -/
import Derived.Test.YtalehhjjbadlpaaGreatDoorX08
set_option linter.all false
set_option maxRecDepth 100000
set_option maxHeartbeats 32000000
namespace Go.Proofs.YtalehhjjbadlpaaGreatDoor
open Go.RowKit
theorem Rn (x:nD):1<=(nR x).length:=by have:=gp x.jN;unfold nR;simp only[la];omega
theorem Pn (x:gH):1<=(iY x).length:=by have:=gp x.gd;unfold iY;simp only[la];omega
theorem O7 (x:mS):1<=(jV x).length:=by have:=gp x.gn.length;unfold jV vC;simp only[la];omega
theorem OU (x:mT):1<=(jT x).length:=by have:=gp x.km;unfold jT;simp only[la];omega
theorem PQ (x:mC):1<=(lJ x).length:=by have:=gp x.start;unfold lJ;simp only[la];omega
theorem Um (x:Region):1<=(oh x).length:=by have:=gp x.kB.length;unfold oh Gw;simp only[la];omega
theorem LX (x:hU):1<=(fH x).length:=by have:=gp x.gL;unfold fH;simp only[la];omega
theorem Ug (w:World)(f:iu)(A1 A2 A3 A4 A5 A6 A7 A8:Option Addr)(d1 d2 d3 d4 d5 d6 d7 d8:Nat)(i0:gN f.gt)(h1:Sl iA 9 w (Lw w) A1 f.ga)(h2:Sl kO 2 w (Lw w) A2 f.f6)(h3:Sl jn 3 w (Lw w) A3 f.ge)(h4:Sl kn 2 w (Lw w) A4 f.a')(h5:Sl kI 4 w (Lw w) A5 f.gM)(h6:Sl ko 1 w (Lw w) A6 f.d')(h7:Sl kx 1 w (Lw w) A7 f.fY)(h8:Sl gS 1 w (Lw w) A8 f.gP)(al:(nZ f).length<=100000000000000):
  Calls Tryz.prog 28 #[.agg #[.int .i64 f.gt,.slice A1 f.ga.length d1,.slice A2 f.f6.length d2,.slice A3 f.ge.length d3,.slice A4 f.a'.length d4,.slice A5 f.gM.length d5,.slice A6 f.d'.length d6,.slice A7 f.fY.length d7,.slice A8 f.gP.length d8]] w λe t=>e=.returned (.string ⟨(nZ f).toArray⟩)/\Below w.heap.size w t:=by
 obtain⟨L,p,a,q,n,r,g,d,M⟩:=f;have ay:nZ ⟨L,p,a,q,n,r,g,d,M⟩=ai L++ai (p.length:Int)++p.flatMap fH++ai (a.length:Int)++a.flatMap nR++ai (q.length:Int)++q.flatMap iY++ai (n.length:Int)++n.flatMap jV++ai (r.length:Int)++r.flatMap jT++ai (g.length:Int)++g.flatMap oh++ai (d.length:Int)++d.flatMap gJ++ju M:=by simp[nZ,NC,XR,Tu,RJ,XO,Ze,RZ]
 rw[ay]at al ⊢;clear ay;simp only[la]at al;simp only at i0 h1 h2 h3 h4 h5 h6 h7 h8 ⊢;have n1:gN (p.length:Int):=mM fH LX p (by omega);have cK:p.length<=100000000000000:=nt (gq fH LX p) (by omega);have n2:gN (a.length:Int):=mM nR Rn a (by omega);have cL:a.length<=100000000000000:=nt (gq nR Rn a) (by omega);have n3:gN (q.length:Int):=mM iY Pn q (by omega);have cM:q.length<=100000000000000:=nt (gq iY Pn q) (by omega);have n4:gN (n.length:Int):=mM jV O7 n (by omega);have cN:n.length<=100000000000000:=nt (gq jV O7 n) (by omega);have n5:gN (r.length:Int):=mM jT OU r (by omega);have cP:r.length<=100000000000000:=nt (gq jT OU r) (by omega);have n6:gN (g.length:Int):=mM oh Um g (by omega);have cQ:g.length<=100000000000000:=nt (gq oh Um g) (by omega);have n7:gN (d.length:Int):=mM gJ OW d (by omega);have cR:d.length<=100000000000000:=nt (gq gJ OW d) (by omega);have H1:=J h1;have H2:=J h2;have H3:=J h3;have H4:=J h4;have H5:=J h5;have H6:=J h6;have H7:=J h7;have H8:=J h8;have a6:=J (λt=>aG t _ i0);have a7:=J (λt=>aG t _ n1);have a8:=J (λt=>aG t _ n2);have a9:=J (λt=>aG t _ n3);have ba:=J (λt=>aG t _ n4);have bb:=J (λt=>aG t _ n5);have bc:=J (λt=>aG t _ n6);have bd:=J (λt=>aG t _ n7);have HE:=J (show(ju M).length<=100000000000000 by omega);have HR:=J (λt c A (h:Sl gS 1 t (Lw t) A M)=>Ci t A c M h HE.out);clear i0 HE h1 h2 h3 h4 h5 h6 h7 h8 n1 n2 n3 n4 n5 n6 n7;generalize ai L=D0 at*
 generalize ai (p.length:Int)=D1 at*
 generalize ai (a.length:Int)=D2 at*
 generalize ai (q.length:Int)=D3 at*
 generalize ai (n.length:Int)=D4 at*
 generalize ai (r.length:Int)=D5 at*
 generalize ai (g.length:Int)=D6 at*
 generalize ai (d.length:Int)=D7 at*
 generalize ju M=E at*
 go_enter Tryz.func28,Tryz.ntmps28
 go_wp2_with fail
 obtain⟨l,ak⟩:∃l,w.alloc (.cells #[.int .i64 L,.slice A1 p.length d1,.slice A2 a.length d2,.slice A3 q.length d3,.slice A4 n.length d4,.slice A5 r.length d5,.slice A6 g.length d6,.slice A7 d.length d7,.slice A8 M.length d8] 32)=l:=⟨_,rfl⟩
 rw[ak];have HW:Hid (Below w.heap.size w l):=by rw[<-ak];exact J ((gD _ _).alloc (ae _) _)
 have P:Hid (Bk l w.heap.size 32 #[.int .i64 L,.slice A1 p.length d1,.slice A2 a.length d2,.slice A3 q.length d3,.slice A4 n.length d4,.slice A5 r.length d5,.slice A6 g.length d6,.slice A7 d.length d7,.slice A8 M.length d8]):=by rw[<-ak];exact J (Bk.new _ _ _)
 have U:w.heap.size<l.heap.size:=P.out.lt;clear ak;replace H1:=J (H1.out.lw iA.ok HW.out);replace H2:=J (H2.out.lw kO.ok HW.out);replace H3:=J (H3.out.lw jn.ok HW.out);replace H4:=J (H4.out.lw kn.ok HW.out);replace H5:=J (H5.out.lw kI.ok HW.out);replace H6:=J (H6.out.lw ko.ok HW.out);replace H7:=J (H7.out.lw kx.ok HW.out);replace H8:=J (H8.out.lw gS.ok HW.out);have x0:∀B:iX (λv=>Below l.heap.size l v),B.w.cell? ⟨w.heap.size,0,none⟩=some (.int .i64 L):=aF (P.out.cell 0);have x1:∀B:iX (λv=>Below l.heap.size l v),B.w.cell? ⟨w.heap.size,1,none⟩=some (.slice A1 p.length d1):=aF (P.out.cell 1);obtain⟨La,bf,bg,cS⟩:=ed D0 D1 (by omega);have EK:=J (aU (W:=l) (λt _=>a6.out t));have EL:=J (aU (W:=l) (λt _=>a7.out t));refine dB (λv=>Below l.heap.size l v) (by kernel_rfl) (by kernel_rfl) ((gD l.heap.size l).drew) ?_;have dm:Nonempty (iX (λv=>Below l.heap.size l v)):=⟨⟨_,((gD l.heap.size l).drew)⟩⟩
 repeat(go_big_quiet_step (first|with_reducible exact EK.out _|with_reducible exact EL.out _))
 refine wpQuiet_nil ?_;intro _ I;obtain⟨N,C⟩:=I;subst C;have bh:Hid (Below l.heap.size l N.w):=J N.ok;generalize N.w=wa at*
 clear x0 x1 EK EL dm bg;go_wp2_with fail
 go_loopw [3,4] (λs i wr=>∃k:Nat,k<=p.length/\i=.int .i64 k/\s=.string ⟨(La++(p.take k).flatMap fH).toArray⟩/\Below l.heap.size l wr) (λ_ i _=>p.length - (intOf i).toNat)
 case atStart=>exact⟨0,nz _,rfl,by simp,bh.out⟩
 case round=>
  obtain⟨av,rfl⟩:∃x,x=wr:=⟨_,rfl⟩
  obtain⟨k,hk,rfl,rfl,u⟩:=hrel;have m:=J u;have c1:av.cell? ⟨w.heap.size,1,none⟩=some (.slice A1 p.length d1):=((aj m.out).1 _ _ U).trans (P.out.cell 1);by_cases D:k<p.length
  .
   obtain⟨b,o,x,B3,e3,B4,e4,B5,e5,B6,e6,B7,e7,B8,e8,rfl,-,F,X,q1,q2,q3,q4,q5,q6,q7,q8,i1,h3,h4,h5,h6,h7,h8⟩:=(H1.out.lw iA.ok u).z D;have G:Hid (La++(p.take (k+1)).flatMap fH=La++(p.take k).flatMap fH++fH x):=by show _=_;rw[eY F.out];simp
   have S:=iR (f:=fH) F.out;have H:(La++(p.take k).flatMap fH).length<=La.length+((p.take k).flatMap fH).length:=nV _ _;have Y:=J (Cq av x B3 B4 B5 B6 B7 B8 e3 e4 e5 e6 e7 e8 i1 h3 h4 h5 h6 h7 h8 (by omega));generalize La++(p.take k).flatMap fH=bj at*
   generalize fH x=D9 at*
   obtain⟨cT,bk,cU,cW⟩:=ed bj D9 (by omega);clear F S H u;go_wp2_with fail
   refine Y.out.mono ?_;rintro e wz ⟨rfl,T⟩;have V:Hid (Below l.heap.size l wz):=J (m.out.trans (T.mono m.out.size));clear T Y;go_wp2_with fail
   go_roundw
   case rel=>exact⟨k+1,by omega,by simp,by rw[G.out,bk.out],V.out⟩
   case measure=>simp[intOf];omega
  obtain rfl:k=p.length:=by omega
  rw[lf];have cX:(La++p.flatMap fH).length<=La.length+(p.flatMap fH).length:=nV _ _;generalize ao:La++p.flatMap fH=bl at*
  have bm:=J ao.symm;clear ao;have c2:av.cell? ⟨w.heap.size,2,none⟩=some (.slice A2 a.length d2):=((aj m.out).1 _ _ U).trans (P.out.cell 2);obtain⟨Lc,bn,cY,cZ⟩:=ed bl D2 (by omega);go_wp2_with fail
  refine(a8.out _).mono ?_;rintro e bo ⟨rfl,z⟩;have bp:Hid (Below l.heap.size l bo):=J (m.out.trans (z.mono m.out.size));clear z c2 m u;go_wp2_with fail
  go_loopw [3,5] (λs i wr=>∃k:Nat,k<=a.length/\i=.int .i64 k/\s=.string ⟨(Lc++(a.take k).flatMap nR).toArray⟩/\Below l.heap.size l wr) (λ_ i _=>a.length - (intOf i).toNat)
  case atStart=>exact⟨0,nz _,rfl,by simp,bp.out⟩
  case round=>
   obtain⟨Q,rfl⟩:∃x,x=wr:=⟨_,rfl⟩
   obtain⟨k,hk,rfl,rfl,u⟩:=hrel;have m:=J u;have c2:Q.cell? ⟨w.heap.size,2,none⟩=some (.slice A2 a.length d2):=((aj m.out).1 _ _ U).trans (P.out.cell 2);by_cases D:k<a.length
   .
    obtain⟨b,o,x,rfl,-,F,X,q1,i0,i1⟩:=(H2.out.lw kO.ok u).Y D;have G:Hid (Lc++(a.take (k+1)).flatMap nR=Lc++(a.take k).flatMap nR++ai x.jN++ai x.z):=by show _=_;rw[eY F.out];simp[nR]
    have S:=iR (f:=nR) F.out;simp only[nR,la,aV,ln]at S;have H:(Lc++(a.take k).flatMap nR).length<=Lc.length+((a.take k).flatMap nR).length:=nV _ _;clear F;have xc:∀B:iX (λv=>Below Q.heap.size Q v),B.w.cell? ⟨w.heap.size,2,none⟩=some (.slice (some ⟨b,o,none⟩) a.length d2):=aF c2;have bq:∀B:iX (λv=>Below Q.heap.size Q v),B.w.cell? ⟨b,o+k*2,none⟩=some (.int .i64 x.jN):=aF X;have br:∀B:iX (λv=>Below Q.heap.size Q v),B.w.cell? ⟨b,o+k*2+1,none⟩=some (.int .i64 x.z):=aF q1;have ut:=J (aU (W:=Q) (λt _=>aG t (x.jN) i0));have Z:=J (aU (W:=Q) (λt _=>aG t (x.z) i1));generalize Lc++(a.take k).flatMap nR=bs at*
    generalize ai x.jN=D0 at*
    generalize ai x.z=D1 at*
    obtain⟨bv,bw,c0,c9⟩:=ed bs D0 (by omega);obtain⟨da,bx,db,dc⟩:=ed bv D1 (by omega);clear S H u X q1;go_wp2_with fail
    refine dB (λv=>Below Q.heap.size Q v) (by kernel_rfl) (by kernel_rfl) ((gD Q.heap.size Q).drew) ?_;have dm:Nonempty (iX (λv=>Below Q.heap.size Q v)):=⟨⟨_,((gD Q.heap.size Q).drew)⟩⟩
    repeat(go_big_quiet_step (first|with_reducible exact ut.out _|with_reducible exact Z.out _))
    refine wpQuiet_nil ?_;intro _ I;obtain⟨N,C⟩:=I;subst C;have V:Hid (Below l.heap.size l N.w):=J (m.out.trans (N.ok.mono m.out.size));generalize N.w=wz at*
    go_wp2_with fail
    go_roundw
    case rel=>exact⟨k+1,by omega,by simp,by rw[G.out,bx.out,bw.out],V.out⟩
    case measure=>simp[intOf];omega
   obtain rfl:k=a.length:=by omega
   rw[lf];have dd:(Lc++a.flatMap nR).length<=Lc.length+(a.flatMap nR).length:=nV _ _;generalize ap:Lc++a.flatMap nR=bz at*
   have bA:=J ap.symm;clear ap;have c3:Q.cell? ⟨w.heap.size,3,none⟩=some (.slice A3 q.length d3):=((aj m.out).1 _ _ U).trans (P.out.cell 3);obtain⟨Ld,bB,de,df⟩:=ed bz D3 (by omega);go_wp2_with fail
   refine(a9.out _).mono ?_;rintro e bE ⟨rfl,z⟩;have bF:Hid (Below l.heap.size l bE):=J (m.out.trans (z.mono m.out.size));clear z c3 m u;go_wp2_with fail
   go_loopw [3,6] (λs i wr=>∃k:Nat,k<=q.length/\i=.int .i64 k/\s=.string ⟨(Ld++(q.take k).flatMap iY).toArray⟩/\Below l.heap.size l wr) (λ_ i _=>q.length - (intOf i).toNat)
   case atStart=>exact⟨0,nz _,rfl,by simp,bF.out⟩
   case round=>
    obtain⟨aw,rfl⟩:∃x,x=wr:=⟨_,rfl⟩
    obtain⟨k,hk,rfl,rfl,u⟩:=hrel;have m:=J u;have c3:aw.cell? ⟨w.heap.size,3,none⟩=some (.slice A3 q.length d3):=((aj m.out).1 _ _ U).trans (P.out.cell 3);by_cases D:k<q.length
    .
     obtain⟨b,o,x,B2,e2,rfl,-,F,X,q1,q2,i0,h0⟩:=(H3.out.lw jn.ok u).lookup D;have G:Hid (Ld++(q.take (k+1)).flatMap iY=Ld++(q.take k).flatMap iY++iY x):=by show _=_;rw[eY F.out];simp
     have S:=iR (f:=iY) F.out;have H:(Ld++(q.take k).flatMap iY).length<=Ld.length+((q.take k).flatMap iY).length:=nV _ _;have Y:=J (Y0 aw x B2 e2 i0 h0 (by omega));generalize Ld++(q.take k).flatMap iY=bH at*
     generalize iY x=D9 at*
     obtain⟨dg,bK,dh,dj⟩:=ed bH D9 (by omega);clear F S H u;go_wp2_with fail
     refine Y.out.mono ?_;rintro e wz ⟨rfl,T⟩;have V:Hid (Below l.heap.size l wz):=J (m.out.trans (T.mono m.out.size));clear T Y;go_wp2_with fail
     go_roundw
     case rel=>exact⟨k+1,by omega,by simp,by rw[G.out,bK.out],V.out⟩
     case measure=>simp[intOf];omega
    obtain rfl:k=q.length:=by omega
    rw[lf];have dk:(Ld++q.flatMap iY).length<=Ld.length+(q.flatMap iY).length:=nV _ _;generalize aq:Ld++q.flatMap iY=bL at*
    have bM:=J aq.symm;clear aq;have c4:aw.cell? ⟨w.heap.size,4,none⟩=some (.slice A4 n.length d4):=((aj m.out).1 _ _ U).trans (P.out.cell 4);obtain⟨Le,bN,dl,dn⟩:=ed bL D4 (by omega);go_wp2_with fail
    refine(ba.out _).mono ?_;rintro e bO ⟨rfl,z⟩;have bP:Hid (Below l.heap.size l bO):=J (m.out.trans (z.mono m.out.size));clear z c4 m u;go_wp2_with fail
    go_loopw [3,7] (λs i wr=>∃k:Nat,k<=n.length/\i=.int .i64 k/\s=.string ⟨(Le++(n.take k).flatMap jV).toArray⟩/\Below l.heap.size l wr) (λ_ i _=>n.length - (intOf i).toNat)
    case atStart=>exact⟨0,nz _,rfl,by simp,bP.out⟩
    case round=>
     obtain⟨R,rfl⟩:∃x,x=wr:=⟨_,rfl⟩
     obtain⟨k,hk,rfl,rfl,u⟩:=hrel;have m:=J u;have c4:R.cell? ⟨w.heap.size,4,none⟩=some (.slice A4 n.length d4):=((aj m.out).1 _ _ U).trans (P.out.cell 4);by_cases D:k<n.length
     .
      obtain⟨b,o,x,B1,e1,rfl,-,F,X,q1,h0⟩:=(H4.out.lw kn.ok u).t' D;have G:Hid (Le++(n.take (k+1)).flatMap jV=Le++(n.take k).flatMap jV++ai (x.gn.length:Int)++x.gn++[32]++ju x.ge):=by show _=_;rw[eY F.out];simp[jV,vC]
      have S:=iR (f:=jV) F.out;simp only[jV,vC,la,aV,ln]at S;have H:(Le++(n.take k).flatMap jV).length<=Le.length+((n.take k).flatMap jV).length:=nV _ _;clear F;have xc:∀B:iX (λv=>Below R.heap.size R v),B.w.cell? ⟨w.heap.size,4,none⟩=some (.slice (some ⟨b,o,none⟩) n.length d4):=aF c4;have bq:∀B:iX (λv=>Below R.heap.size R v),B.w.cell? ⟨b,o+k*2,none⟩=some (.string ⟨x.gn.toArray⟩):=aF X;have br:∀B:iX (λv=>Below R.heap.size R v),B.w.cell? ⟨b,o+k*2+1,none⟩=some (.slice B1 x.ge.length e1):=aF q1;have SV:gN (x.gn.length:Int):=⟨by omega,by omega⟩
      have ut:=J (aU (W:=R) (λt _=>aG t (x.gn.length) SV));clear SV;have Z:=J (aU (W:=R) (λt I=>Ci t B1 e1 x.ge (h0.lw gS.ok I) (by omega)));generalize Le++(n.take k).flatMap jV=bR at*
      generalize ai (x.gn.length:Int)=D0 at*
      generalize ju x.ge=D1 at*
      obtain⟨bS,bT,dp,dq⟩:=ed bR D0 (by omega);obtain⟨bV,bW,dr,ds⟩:=ed bS x.gn (by omega);obtain⟨bX,bZ,dt,du⟩:=xb bV 32 (by omega);obtain⟨dv,b0,dx,dy⟩:=ed bX D1 (by omega);clear S H u X q1;go_wp2_with fail
      refine dB (λv=>Below R.heap.size R v) (by kernel_rfl) (by kernel_rfl) ((gD R.heap.size R).drew) ?_;have dm:Nonempty (iX (λv=>Below R.heap.size R v)):=⟨⟨_,((gD R.heap.size R).drew)⟩⟩
      repeat(go_big_quiet_step (first|with_reducible exact ut.out _|with_reducible exact Z.out _))
      refine wpQuiet_nil ?_;intro _ I;obtain⟨N,C⟩:=I;subst C;have V:Hid (Below l.heap.size l N.w):=J (m.out.trans (N.ok.mono m.out.size));generalize N.w=wz at*
      go_wp2_with fail
      go_roundw
      case rel=>exact⟨k+1,by omega,by simp,by rw[G.out,b0.out,bZ.out,bW.out,bT.out],V.out⟩
      case measure=>simp[intOf];omega
     obtain rfl:k=n.length:=by omega
     rw[lf];have dz:(Le++n.flatMap jV).length<=Le.length+(n.flatMap jV).length:=nV _ _;generalize ar:Le++n.flatMap jV=b1 at*
     have b4:=J ar.symm;clear ar;have c5:R.cell? ⟨w.heap.size,5,none⟩=some (.slice A5 r.length d5):=((aj m.out).1 _ _ U).trans (P.out.cell 5);obtain⟨Lh,b5,dG,dN⟩:=ed b1 D5 (by omega);go_wp2_with fail
     refine(bb.out _).mono ?_;rintro e b6 ⟨rfl,z⟩;have b7:Hid (Below l.heap.size l b6):=J (m.out.trans (z.mono m.out.size));clear z c5 m u;go_wp2_with fail
     go_loopw [3,8] (λs i wr=>∃k:Nat,k<=r.length/\i=.int .i64 k/\s=.string ⟨(Lh++(r.take k).flatMap jT).toArray⟩/\Below l.heap.size l wr) (λ_ i _=>r.length - (intOf i).toNat)
     case atStart=>exact⟨0,nz _,rfl,by simp,b7.out⟩
     case round=>
      obtain⟨GU,rfl⟩:∃x,x=wr:=⟨_,rfl⟩
      obtain⟨k,hk,rfl,rfl,u⟩:=hrel;have m:=J u;have c5:GU.cell? ⟨w.heap.size,5,none⟩=some (.slice A5 r.length d5):=((aj m.out).1 _ _ U).trans (P.out.cell 5);by_cases D:k<r.length
      .
       obtain⟨b,o,x,rfl,-,F,X,q1,q2,q3,i1,i2,i3⟩:=(H5.out.lw kI.ok u).qS D;have G:Hid (Lh++(r.take (k+1)).flatMap jT=Lh++(r.take k).flatMap jT++ai (x.gn.length:Int)++x.gn++[32]++ai x.km++ai x.kA++ai x.kv):=by show _=_;rw[eY F.out];simp[jT,vC]
       have S:=iR (f:=jT) F.out;simp only[jT,vC,la,aV,ln]at S;have H:(Lh++(r.take k).flatMap jT).length<=Lh.length+((r.take k).flatMap jT).length:=nV _ _;clear F u;go_wp2_with fail
       obtain⟨K,O⟩:∃eR,GU.alloc (.cells #[.string ⟨x.gn.toArray⟩,.int .i64 x.km,.int .i64 x.kA,.int .i64 x.kv] 75)=eR:=⟨_,rfl⟩
       rw[O];have aD:Hid (Below l.heap.size l K):=by rw[<-O];exact J (m.out.alloc m.out.size _)
       have b2:Bk K GU.heap.size 75 #[.string ⟨x.gn.toArray⟩,.int .i64 x.km,.int .i64 x.kA,.int .i64 x.kv]:=by rw[<-O];exact Bk.new _ _ _
       clear O;have x0:∀B:iX (λv=>Below K.heap.size K v),B.w.cell? ⟨GU.heap.size,0,none⟩=some (.string ⟨x.gn.toArray⟩):=aF (b2.cell 0);have x1:∀B:iX (λv=>Below K.heap.size K v),B.w.cell? ⟨GU.heap.size,1,none⟩=some (.int .i64 x.km):=aF (b2.cell 1);have x2:∀B:iX (λv=>Below K.heap.size K v),B.w.cell? ⟨GU.heap.size,2,none⟩=some (.int .i64 x.kA):=aF (b2.cell 2);have x3:∀B:iX (λv=>Below K.heap.size K v),B.w.cell? ⟨GU.heap.size,3,none⟩=some (.int .i64 x.kv):=aF (b2.cell 3);clear b2;have SV:gN (x.gn.length:Int):=⟨by omega,by omega⟩
       have ut:=J (aU (W:=K) (λt _=>aG t (x.gn.length) SV));clear SV;have Z:=J (aU (W:=K) (λt _=>aG t (x.km) i1));have b8:=J (aU (W:=K) (λt _=>aG t (x.kA) i2));have IZ:=J (aU (W:=K) (λt _=>aG t (x.kv) i3));generalize Lh++(r.take k).flatMap jT=aE at*
       generalize ai (x.gn.length:Int)=D0 at*
       generalize ai x.km=D1 at*
       generalize ai x.kA=D2 at*
       generalize ai x.kv=D3 at*
       obtain⟨b9,ca,dT,d0⟩:=ed aE D0 (by omega);obtain⟨cb,cc,d9,ea⟩:=ed b9 x.gn (by omega);obtain⟨cd,ce,eb,ec⟩:=xb cb 32 (by omega);obtain⟨cf,cg,ee,ef⟩:=ed cd D1 (by omega);obtain⟨ch,ci,eg,eh⟩:=ed cf D2 (by omega);obtain⟨ei,cj,ej,ek⟩:=ed ch D3 (by omega);clear S H;refine dB (λv=>Below K.heap.size K v) (by kernel_rfl) (by kernel_rfl) ((gD K.heap.size K).drew) ?_;have dm:Nonempty (iX (λv=>Below K.heap.size K v)):=⟨⟨_,((gD K.heap.size K).drew)⟩⟩
       repeat(go_big_quiet_step (first|with_reducible exact ut.out _|with_reducible exact Z.out _|with_reducible exact b8.out _|with_reducible exact IZ.out _))
       refine wpQuiet_nil ?_;intro _ I;obtain⟨N,C⟩:=I;subst C;have V:Hid (Below l.heap.size l N.w):=J (aD.out.trans (N.ok.mono aD.out.size));generalize N.w=wz at*
       go_wp2_with fail
       go_roundw
       case rel=>exact⟨k+1,by omega,by simp,by rw[G.out,cj.out,ci.out,cg.out,ce.out,cc.out,ca.out],V.out⟩
       case measure=>simp[intOf];omega
      obtain rfl:k=r.length:=by omega
      rw[lf];have el:(Lh++r.flatMap jT).length<=Lh.length+(r.flatMap jT).length:=nV _ _;generalize aa:Lh++r.flatMap jT=aL at*
      have ck:=J aa.symm;clear aa;have c6:GU.cell? ⟨w.heap.size,6,none⟩=some (.slice A6 g.length d6):=((aj m.out).1 _ _ U).trans (P.out.cell 6);obtain⟨CX,cl,em,en⟩:=ed aL D6 (by omega);go_wp2_with fail
      refine(bc.out _).mono ?_;rintro e cm ⟨rfl,z⟩;have cn:Hid (Below l.heap.size l cm):=J (m.out.trans (z.mono m.out.size));clear z c6 m u;go_wp2_with fail
      go_loopw [3,10] (λs i wr=>∃k:Nat,k<=g.length/\i=.int .i64 k/\s=.string ⟨(CX++(g.take k).flatMap oh).toArray⟩/\Below l.heap.size l wr) (λ_ i _=>g.length - (intOf i).toNat)
      case atStart=>exact⟨0,nz _,rfl,by simp,cn.out⟩
      case round=>
       obtain⟨xx,rfl⟩:∃x,x=wr:=⟨_,rfl⟩
       obtain⟨k,hk,rfl,rfl,u⟩:=hrel;have m:=J u;have c6:xx.cell? ⟨w.heap.size,6,none⟩=some (.slice A6 g.length d6):=((aj m.out).1 _ _ U).trans (P.out.cell 6);by_cases D:k<g.length
       .
        obtain⟨b,o,x,B0,e0,rfl,-,F,X,h0⟩:=(H6.out.lw ko.ok u).region D;have G:Hid (CX++(g.take (k+1)).flatMap oh=CX++(g.take k).flatMap oh++ai (x.kB.length:Int)++x.kB.flatMap lJ):=by show _=_;rw[eY F.out];simp[oh,Gw]
        have S:=iR (f:=oh) F.out;simp only[oh,Gw,la]at S;have H:(CX++(g.take k).flatMap oh).length<=CX.length+((g.take k).flatMap oh).length:=nV _ _;have n9:gN (x.kB.length:Int):=mM lJ PQ x.kB (by omega);have eo:x.kB.length<=100000000000000:=nt (gq lJ PQ x.kB) (by omega);have K0:=J h0;have Y:=J (λt=>aG t _ n9);clear n9;generalize CX++(g.take k).flatMap oh=aM at*
        generalize ai (x.kB.length:Int)=E0 at*
        obtain⟨Jv,co,ep,eq⟩:=ed aM E0 (by omega);have zb:=World.block_lt_of_cell? _ _ X;clear F u;go_wp2_with fail
        refine(Y.out _).mono ?_;rintro e wb ⟨rfl,aN⟩;have cp:=J aN;clear aN Y;go_wp2_with fail
        go_loopw [3,11] (λs i wr=>∃j:Nat,j<=x.kB.length/\i=.int .i64 j/\s=.string ⟨(Jv++(x.kB.take j).flatMap lJ).toArray⟩/\Below xx.heap.size xx wr) (λ_ i _=>x.kB.length - (intOf i).toNat)
        case atStart=>exact⟨0,nz _,rfl,by simp,cp.out⟩
        case round=>
         obtain⟨wi,rfl⟩:∃x,x=wr:=⟨_,rfl⟩
         obtain⟨j,hj,rfl,rfl,u⟩:=hrel;have I9:Hid (Below xx.heap.size xx wi):=J u;have aQ:Hid (Below l.heap.size l wi):=J (m.out.trans (u.mono m.out.size));have er:wi.cell? ⟨w.heap.size,6,none⟩=some (.slice (some ⟨b,o,none⟩) g.length d6):=((aj aQ.out).1 _ _ U).trans (P.out.cell 6);have es:wi.cell? ⟨b,o+k,none⟩=some (.slice B0 x.kB.length e0):=((aj I9.out).1 _ _ zb).trans X;by_cases aR:j<x.kB.length
         .
          obtain⟨b2,o2,y,rfl,-,hy,u0,u1,u2,j0,j1,j2⟩:=(K0.out.lw oT.ok u).xo aR;have JF:Hid (Jv++(x.kB.take (j+1)).flatMap lJ=Jv++(x.kB.take j).flatMap lJ++ai y.start++ai y.jx++ai y.jz):=by show _=_;rw[eY hy.out];simp[lJ]
          have aW:=iR (f:=lJ) hy.out;simp only[lJ,la]at aW;have cq:(Jv++(x.kB.take j).flatMap lJ).length<=Jv.length+((x.kB.take j).flatMap lJ).length:=nV _ _;clear hy;go_wp2_with fail
          obtain⟨eR,O⟩:∃eR,wi.alloc (.cells #[.int .i64 y.start,.int .i64 y.jx,.int .i64 y.jz] 77)=eR:=⟨_,rfl⟩
          rw[O];have a0:Hid (Below xx.heap.size xx eR):=by rw[<-O];exact J (I9.out.alloc I9.out.size _)
          have b3:Bk eR wi.heap.size 77 #[.int .i64 y.start,.int .i64 y.jx,.int .i64 y.jz]:=by rw[<-O];exact Bk.new _ _ _
          clear O;have x0:∀B:iX (λv=>Below eR.heap.size eR v),B.w.cell? ⟨wi.heap.size,0,none⟩=some (.int .i64 y.start):=aF (b3.cell 0);have x1:∀B:iX (λv=>Below eR.heap.size eR v),B.w.cell? ⟨wi.heap.size,1,none⟩=some (.int .i64 y.jx):=aF (b3.cell 1);have x2:∀B:iX (λv=>Below eR.heap.size eR v),B.w.cell? ⟨wi.heap.size,2,none⟩=some (.int .i64 y.jz):=aF (b3.cell 2);have cr:=J (aU (W:=eR) (λt _=>aG t (y.start) j0));have cs:=J (aU (W:=eR) (λt _=>aG t (y.jx) j1));have ct:=J (aU (W:=eR) (λt _=>aG t (y.jz) j2));generalize Jv++(x.kB.take j).flatMap lJ=a1 at*
          generalize ai y.start=G0 at*
          generalize ai y.jx=G1 at*
          generalize ai y.jz=G2 at*
          obtain⟨cu,cv,et,ev⟩:=ed a1 G0 (by omega);obtain⟨cw,cx,ew,ex⟩:=ed cu G1 (by omega);obtain⟨ey,cy,ez,eA⟩:=ed cw G2 (by omega);clear b3 aW cq u u0 u1 u2 j0 j1 j2;refine dB (λv=>Below eR.heap.size eR v) (by kernel_rfl) (by kernel_rfl) ((gD eR.heap.size eR).drew) ?_;have dm:Nonempty (iX (λv=>Below eR.heap.size eR v)):=⟨⟨_,((gD eR.heap.size eR).drew)⟩⟩
          repeat(go_big_quiet_step (first|with_reducible exact cr.out _|with_reducible exact cs.out _|with_reducible exact ct.out _))
          refine wpQuiet_nil ?_;intro _ I;obtain⟨N,C⟩:=I;subst C;have V:Hid (Below xx.heap.size xx N.w):=J (a0.out.trans (N.ok.mono a0.out.size));generalize N.w=wz at*
          go_wp2_with fail
          go_roundw
          case rel=>exact⟨j+1,by omega,by simp,by rw[JF.out,cy.out,cx.out,cv.out],V.out⟩
          case measure=>simp[intOf];omega
         obtain rfl:j=x.kB.length:=by omega
         rw[lf];generalize ab:Jv++x.kB.flatMap lJ=cJ at*
         have cz:=J ab.symm;clear ab u S H;go_wp2_with fail
         go_roundw
         case rel=>exact⟨k+1,by omega,by simp,by rw[G.out,cz.out,co.out],aQ.out⟩
         case measure=>simp[intOf];omega
       obtain rfl:k=g.length:=by omega
       rw[lf];have eB:(CX++g.flatMap oh).length<=CX.length+(g.flatMap oh).length:=nV _ _;generalize ac:CX++g.flatMap oh=a2 at*
       have cA:=J ac.symm;clear ac;have c7:xx.cell? ⟨w.heap.size,7,none⟩=some (.slice A7 d.length d7):=((aj m.out).1 _ _ U).trans (P.out.cell 7);obtain⟨CY,cB,eD,eE⟩:=ed a2 D7 (by omega);go_wp2_with fail
       refine(bd.out _).mono ?_;rintro e cC ⟨rfl,z⟩;have cD:Hid (Below l.heap.size l cC):=J (m.out.trans (z.mono m.out.size));clear z c7 m u;go_wp2_with fail
       go_loopw [3,13] (λs i wr=>∃k:Nat,k<=d.length/\i=.int .i64 k/\s=.string ⟨(CY++(d.take k).flatMap gJ).toArray⟩/\Below l.heap.size l wr) (λ_ i _=>d.length - (intOf i).toNat)
       case atStart=>exact⟨0,nz _,rfl,by simp,cD.out⟩
       case round=>
        obtain⟨ZI,rfl⟩:∃x,x=wr:=⟨_,rfl⟩
        obtain⟨k,hk,rfl,rfl,u⟩:=hrel;have m:=J u;have c7:ZI.cell? ⟨w.heap.size,7,none⟩=some (.slice A7 d.length d7):=((aj m.out).1 _ _ U).trans (P.out.cell 7);by_cases D:k<d.length
        .
         obtain⟨b,o,x,B1,e1,rfl,-,F,X,h0⟩:=(H7.out.lw kx.ok u).code D;have G:Hid (CY++(d.take (k+1)).flatMap gJ=CY++(d.take k).flatMap gJ++gJ x):=by show _=_;rw[eY F.out];simp
         have S:=iR (f:=gJ) F.out;have H:(CY++(d.take k).flatMap gJ).length<=CY.length+((d.take k).flatMap gJ).length:=nV _ _;have Y:=J (Ua ZI B1 e1 x h0 (by omega));generalize CY++(d.take k).flatMap gJ=a3 at*
         generalize gJ x=D9 at*
         obtain⟨eI,cE,eJ,eK⟩:=ed a3 D9 (by omega);clear F S H u;go_wp2_with fail
         refine Y.out.mono ?_;rintro e wz ⟨rfl,T⟩;have V:Hid (Below l.heap.size l wz):=J (m.out.trans (T.mono m.out.size));clear T Y;go_wp2_with fail
         go_roundw
         case rel=>exact⟨k+1,by omega,by simp,by rw[G.out,cE.out],V.out⟩
         case measure=>simp[intOf];omega
        obtain rfl:k=d.length:=by omega
        rw[lf];have eL:(CY++d.flatMap gJ).length<=CY.length+(d.flatMap gJ).length:=nV _ _;generalize ad:CY++d.flatMap gJ=a4 at*
        have cF:=J ad.symm;clear ad;have c8:ZI.cell? ⟨w.heap.size,8,none⟩=some (.slice A8 M.length d8):=((aj m.out).1 _ _ U).trans (P.out.cell 8);obtain⟨eM,cG,eN,eO⟩:=ed a4 E (by omega);go_wp2_with fail
        refine(HR.out _ _ _ (H8.out.lw gS.ok m.out)).mono ?_;rintro e wy ⟨rfl,a5⟩;have cH:Hid (Below l.heap.size l wy):=J (m.out.trans (a5.mono m.out.size));clear a5 HR;go_wp2_with fail
        go_ret
        exact⟨by rw[cG.out,cF.out,cB.out,cA.out,cl.out,ck.out,b5.out,b4.out,bN.out,bM.out,bB.out,bA.out,bn.out,bm.out,bf.out];rfl,HW.out.trans (cH.out.mono HW.out.size)⟩
theorem No (w:World)(f g:iu)(Z gc:List Value)(hf:kt w (Lw w) Z f)(hg:kt w (Lw w) gc g)(h1:(nZ f).length<=100000000000000)(h2:(nZ g).length<=100000000000000):
  Calls Tryz.prog 11 #[.agg Z.toArray,.agg gc.toArray] w λe d=>e=.returned (.bool (nZ f==nZ g))/\Below w w d:=by
 obtain⟨n,o,p,c2,q,c3,r,s,t,u,x,y,z,A,B,C,rfl,i0,s1,s2,s3,s4,s5,s6,s7,s8⟩:=hf;obtain⟨F,G,H,I,aa,K,L,M,N,O,P,Q,R,S,T,U,rfl,j0,t1,t2,t3,t4,t5,t6,t7,t8⟩:=hg;have HF:=J (λd (h:Below w w d)=>Ug d f n p q r t x z B o c2 c3 s u y A C i0 (s1.lw iA.ok h) (s2.lw kO.ok h) (s3.lw jn.ok h) (s4.lw kn.ok h) (s5.lw kI.ok h) (s6.lw ko.ok h) (s7.lw kx.ok h) (s8.lw gS.ok h) h1);have HG:=J (λd (h:Below w w d)=>Ug d g F H aa L N P R T G I K M O Q S U j0 (t1.lw iA.ok h) (t2.lw kO.ok h) (t3.lw jn.ok h) (t4.lw kn.ok h) (t5.lw kI.ok h) (t6.lw ko.ok h) (t7.lw kx.ok h) (t8.lw gS.ok h) h2);clear s1 s2 s3 s4 s5 s6 s7 s8 t1 t2 t3 t4 t5 t6 t7 t8 i0 j0 h1 h2;generalize nZ f=PF at*
 generalize nZ g=PG at*
 go_enter Tryz.func11,Tryz.ntmps11
 go_wp2_with fail
 obtain⟨l,i⟩:∃l,w.alloc (.cells #[f.gt,n f.ga.length o,p f.f6.length c2,q f.ge.length c3,r f.a'.length s,t f.gM.length u,x f.d'.length y,z f.fY.length A,B f.gP.length C] 32)=l:=⟨_,rfl⟩
 obtain⟨a,j⟩:∃a,l.alloc (.cells #[g.gt,F g.ga.length G,H g.f6.length I,aa g.ge.length K,L g.a'.length M,N g.gM.length O,P g.d'.length Q,R g.fY.length S,T g.gP.length U] 32)=a:=⟨_,rfl⟩
 have D:l.heap.size=w.heap.size+1:=by rw[<-i];simp
 rw[i,j];have k1:Bk l w.heap.size 32 #[f.gt,n f.ga.length o,p f.f6.length c2,q f.ge.length c3,r f.a'.length s,t f.gM.length u,x f.d'.length y,z f.fY.length A,B f.gP.length C]:=by rw[<-i];exact Bk.new _ _ _
 have k:Bk a l.heap.size 32 #[g.gt,F g.ga.length G,H g.f6.length I,aa g.ge.length K,L g.a'.length M,N g.gM.length O,P g.d'.length Q,R g.fY.length S,T g.gP.length U]:=by rw[<-j];exact Bk.new _ _ _
 have c:Bk a w.heap.size 32 #[f.gt,n f.ga.length o,p f.f6.length c2,q f.ge.length c3,r f.a'.length s,t f.gM.length u,x f.d'.length y,z f.fY.length A,B f.gP.length C]:=by rw[<-j];exact k1.alloc _
 have m:Hid (Below w w a):=by rw[<-j,<-i];exact J (((gD _ _).alloc (ae _) _).alloc (by simp) _)
 rw[D]at k;clear i j k1 D;have x0:∀b:iX (λv=>Below a.heap.size a v),b.w.cell? (w,0)=some (.int .i64 f.gt):=aF (c.cell 0);have x1:∀b:iX (λv=>Below a.heap.size a v),b.w.cell? (w,1)=some (n f.ga.length o):=aF (c.cell 1);have x2:∀b:iX (λv=>Below a.heap.size a v),b.w.cell? (w,2)=some (p f.f6.length c2):=aF (c.cell 2);have x3:∀b:iX (λv=>Below a.heap.size a v),b.w.cell? (w,3)=some (q f.ge.length c3):=aF (c.cell 3);have x4:∀b:iX (λv=>Below a.heap.size a v),b.w.cell? (w,4)=some (r f.a'.length s):=aF (c.cell 4);have x5:∀b:iX (λv=>Below a.heap.size a v),b.w.cell? (w,5)=some (t f.gM.length u):=aF (c.cell 5);have x6:∀b:iX (λv=>Below a.heap.size a v),b.w.cell? (w,6)=some (x f.d'.length y):=aF (c.cell 6);have x7:∀b:iX (λv=>Below a.heap.size a v),b.w.cell? (w,7)=some (z f.fY.length A):=aF (c.cell 7);have x8:∀b:iX (λv=>Below a.heap.size a v),b.w.cell? (w,8)=some (B f.gP.length C):=aF (c.cell 8);have y0:∀b:iX (λv=>Below a.heap.size a v),b.w.cell? ((w.heap.size+1),0)=some (.int .i64 g.gt):=aF (k.cell 0);have y1:∀b:iX (λv=>Below a.heap.size a v),b.w.cell? ((w.heap.size+1),1)=some (F g.ga.length G):=aF (k.cell 1);have y2:∀b:iX (λv=>Below a.heap.size a v),b.w.cell? ((w.heap.size+1),2)=some (H g.f6.length I):=aF (k.cell 2);have y3:∀b:iX (λv=>Below a.heap.size a v),b.w.cell? ((w.heap.size+1),3)=some (aa g.ge.length K):=aF (k.cell 3);have y4:∀b:iX (λv=>Below a.heap.size a v),b.w.cell? ((w.heap.size+1),4)=some (L g.a'.length M):=aF (k.cell 4);have y5:∀b:iX (λv=>Below a.heap.size a v),b.w.cell? ((w.heap.size+1),5)=some (N g.gM.length O):=aF (k.cell 5);have y6:∀b:iX (λv=>Below a.heap.size a v),b.w.cell? ((w.heap.size+1),6)=some (P g.d'.length Q):=aF (k.cell 6);have y7:∀b:iX (λv=>Below a.heap.size a v),b.w.cell? ((w.heap.size+1),7)=some (R g.fY.length S):=aF (k.cell 7);have y8:∀b:iX (λv=>Below a.heap.size a v),b.w.cell? ((w.heap.size+1),8)=some (T g.gP.length U):=aF (k.cell 8);have V:=J (aU (W:=a) (λd h=>HF.out d (m.out.trans (h.mono m.out.size))));have X:=J (aU (W:=a) (λd h=>HG.out d (m.out.trans (h.mono m.out.size))));clear HF HG c k;refine dB (λv=>Below a.heap.size a v) (by kernel_rfl) (by kernel_rfl) ((gD a.heap.size a).drew) ?_;have dm:Nonempty (iX (λv=>Below a.heap.size a v)):=⟨⟨_,((gD a.heap.size a).drew)⟩⟩
 repeat(go_big_quiet_step (first|with_reducible exact V.out _|with_reducible exact X.out _))
 refine wpQuiet_nil ?_;intro _ Y;obtain⟨xq,E⟩:=Y;subst E;have Hq:=m.out.trans (xq.ok.mono m.out.size);go_wp2_with fail
 go_ret
 exact⟨rfl,Hq⟩
