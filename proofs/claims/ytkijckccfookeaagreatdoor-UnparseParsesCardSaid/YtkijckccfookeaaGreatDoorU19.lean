/- Lemmas. -/
import Derived.Test.YtkijckccfookeaaGreatDoorU17
set_option linter.unusedVariables false
set_option linter.unusedSimpArgs false
set_option maxRecDepth 100000
set_option maxHeartbeats 32000000
namespace Go.Proofs.YtkijckccfookeaaGreatDoor
open Go.RowKit
theorem JV (p:Call):1<=(jr p).length:=by have:=fA p.at';unfold jr;rw[la];omega
theorem JH (r:als):1<=(ja r).length:=by have:=fA r.x;unfold ja;simp only[la];omega
theorem UZ (w:World)(g:Lookup)(A2:Option Addr)(d2:Nat)(i0:I64 g.kind)(h2:Sl ak3 6 w (Lw w) A2 g.rules)(hlen:(iq g).length<=100000000000000):
  Calls Tryz.prog 101 #[.agg #[.int .i64 g.kind,.bool g.alr,.slice A2 g.rules.length d2]] w fun e w'=>e= .returned (.string ⟨(iq g).toArray⟩)/\Below w.heap.size w w':=by
 obtain⟨kind,yw,rules⟩:=g;have hgl:iq ⟨kind,yw,rules⟩=ai kind++ww yw++ai (rules.length:Int)++rules.flatMap ja:=by simp[iq,OW]
 rw[hgl] at hlen ⊢;clear hgl;simp only[la] at hlen;simp only at i0 h2 ⊢;have n2:I64 (rules.length:Int):=lg ja JH rules (by omega);have ln2:rules.length<=100000000000000:=nt (fB ja JH rules) (by omega);have H2:=hd0 h2;have HD0:=hd0 (fun w'=>aF w' _ i0);have HD1:=hd0 (fun w'=>aF w' _ n2);have HY:=hd0 (fun w'=>Ny w' yw);clear h2 i0 n2;generalize ai kind=D0 at*
 generalize ww yw=Y at*
 generalize ai (rules.length:Int)=D1 at*
 go_enter Tryz.func101,Tryz.ntmps101
 go_wp2_with fail
 obtain⟨W0,hW0⟩:∃W0,w.alloc (.cells #[.int .i64 kind,.bool yw,.slice A2 rules.length d2] 72)=W0:=⟨_,rfl⟩
 rw[hW0];have HW:Hid (Below w.heap.size w W0):=by rw[<-hW0];exact hd0 ((ant _ _).alloc (af _) _)
 have HK:Hid (Bk W0 w.heap.size 72 #[.int .i64 kind,.bool yw,.slice A2 rules.length d2]):=by rw[<-hW0];exact hd0 (Bk.new _ _ _)
 have z0:w.heap.size<W0.heap.size:=HK.out.lt;clear hW0;replace H2:=hd0 (H2.out.lw ak3.ok HW.out);have x0:∀xw:WIn (fun v=>Below W0.heap.size W0 v),xw.w.cell? ⟨w.heap.size,0,none⟩=some (.int .i64 kind):=aC (HK.out.cell 0);have x1:∀xw:WIn (fun v=>Below W0.heap.size W0 v),xw.w.cell? ⟨w.heap.size,1,none⟩=some (.bool yw):=aC (HK.out.cell 1);have x2:∀xw:WIn (fun v=>Below W0.heap.size W0 v),xw.w.cell? ⟨w.heap.size,2,none⟩=some (.slice A2 rules.length d2):=aC (HK.out.cell 2);have ahb:∀w',(Op.stringOp .add ⟨D0.toArray⟩ ⟨Y.toArray⟩).run Tryz.prog w'= .ok (.string ⟨(D0++Y).toArray⟩) w':=bF D0 Y (by omega);have aj1:(D0++Y).length<=D0.length+Y.length:=bu _ _;generalize hS49:D0++Y=S49 at*
 have agP:=hd0 hS49.symm;clear hS49;have ahu:∀w',(Op.stringOp .add ⟨S49.toArray⟩ ⟨D1.toArray⟩).run Tryz.prog w'= .ok (.string ⟨(S49++D1).toArray⟩) w':=bF S49 D1 (by omega);have akt:(S49++D1).length<=S49.length+D1.length:=bu _ _;generalize hS50:S49++D1=S50 at*
 have ahK:=hd0 hS50.symm;clear hS50;have Di:=hd0 (aP (W:=W0) (fun w' _=>HD0.out w'));have Dp:=hd0 (aP (W:=W0) (fun w' _=>HD1.out w'));have Xy:=hd0 (aP (W:=W0) (fun w' _=>HY.out w'));refine bW (fun v=>Below W0.heap.size W0 v) (by kernel_rfl) (by kernel_rfl) ((ant W0.heap.size W0).drew) ?_;have bT:Nonempty (WIn (fun v=>Below W0.heap.size W0 v)):=⟨⟨_,((ant W0.heap.size W0).drew)⟩⟩
 repeat(go_big_quiet_step (first|with_reducible exact Di.out _|with_reducible exact Dp.out _|with_reducible exact Xy.out _))
 refine wpQuiet_nil ?_;intro _ hw';obtain⟨xq,hw''⟩:=hw';subst hw'';have WU:Hid (Below W0.heap.size W0 xq.w):=hd0 xq.ok;generalize xq.w=wa at*
 clear x0 x1 x2 Di Dp Xy bT ahb ahu;go_wp2_with fail
 go_loopw [3,4] (fun s i wr=>∃k:Nat,k<=rules.length/\i= .int .i64 k/\s= .string ⟨(S50++(rules.take k).flatMap ja).toArray⟩/\Below W0.heap.size W0 wr) (fun _ i _=>rules.length - (intOf i).toNat)
 case atStart=>exact⟨0,nz _,rfl,by simp,WU.out⟩
 case round=>
  obtain⟨rC,rfl⟩:∃x,x=wr:=⟨_,rfl⟩
  obtain⟨k,hk,rfl,rfl,hb⟩:=hrel;have HX:=hd0 hb;have c2:rC.cell? ⟨w.heap.size,2,none⟩=some (.slice A2 rules.length d2):=((aj HX.out).1 _ _ z0).trans (HK.out.cell 2);by_cases hlt:k<rules.length
  ·
   obtain⟨b,o,x,B0,e0,B1,e1,B2,e2,B3,e3,B4,e4,rfl,-,hx,q0,q1,q2,q3,q4,q5,i5,h0,h1,h2,h3,h4⟩:=(H2.out.lw ak3.ok hb).rule hlt;have hsn:Hid (S50++(rules.take (k+1)).flatMap ja=S50++(rules.take k).flatMap ja++lh x.back++lh x.in'++lh x.ahead++rowB x.out++ai (x.calls.length:Int)++x.calls.flatMap jr++ai x.x):=by show _=_;rw[dU hx.out];simp[ja,Ij]
   have hf:=gZ (f:=ja) hx.out;simp only[ja,Ij,la,aT,ln] at hf;have hs0:(S50++(rules.take k).flatMap ja).length<=S50.length+((rules.take k).flatMap ja).length:=bu _ _;have n4:I64 (x.calls.length:Int):=lg jr JV x.calls (by omega);have ln4:x.calls.length<=100000000000000:=nt (fB jr JV x.calls) (by omega);have HL0:=hd0 (show(lh x.back).length<=100000000000000 by omega);have HL1:=hd0 (show(lh x.in').length<=100000000000000 by omega);have HL2:=hd0 (show(lh x.ahead).length<=100000000000000 by omega);have rf:=hd0 (show(rowB x.out).length<=100000000000000 by omega);clear hx;go_wp2_with fail
   obtain⟨W2,hW2⟩:∃W2,rC.alloc (.cells #[.slice B0 x.back.length e0,.slice B1 x.in'.length e1,.slice B2 x.ahead.length e2,.slice B3 x.out.length e3,.slice B4 x.calls.length e4,.int .i64 x.x] 76)=W2:=⟨_,rfl⟩
   rw[hW2];have Rt:Hid (Below rC.heap.size rC W2):=by rw[<-hW2];exact hd0 ((ant _ _).alloc (af _) _)
   have HW2:Hid (Below W0.heap.size W0 W2):=hd0 (HX.out.trans (Rt.out.mono HX.out.size));have lC:Hid (Bk W2 rC.heap.size 76 #[.slice B0 x.back.length e0,.slice B1 x.in'.length e1,.slice B2 x.ahead.length e2,.slice B3 x.out.length e3,.slice B4 x.calls.length e4,.int .i64 x.x]):=by rw[<-hW2];exact hd0 (Bk.new _ _ _)
   have z2:rC.heap.size<W2.heap.size:=lC.out.lt;clear hW2;have K0:=hd0 (h0.lw akM.ok Rt.out);have K1:=hd0 (h1.lw akM.ok Rt.out);have K2:=hd0 (h2.lw akM.ok Rt.out);have K3:=hd0 (h3.lw akL.ok Rt.out);have K4:=hd0 (h4.lw alu.ok Rt.out);have I5:=hd0 i5;clear h0 h1 h2 h3 h4 i5 hb q0 q1 q2 q3 q4 q5;have x0:∀xw:WIn (fun v=>Below W2.heap.size W2 v),xw.w.cell? ⟨rC.heap.size,0,none⟩=some (.slice B0 x.back.length e0):=aC (lC.out.cell 0);have x1:∀xw:WIn (fun v=>Below W2.heap.size W2 v),xw.w.cell? ⟨rC.heap.size,1,none⟩=some (.slice B1 x.in'.length e1):=aC (lC.out.cell 1);have x2:∀xw:WIn (fun v=>Below W2.heap.size W2 v),xw.w.cell? ⟨rC.heap.size,2,none⟩=some (.slice B2 x.ahead.length e2):=aC (lC.out.cell 2);have x3:∀xw:WIn (fun v=>Below W2.heap.size W2 v),xw.w.cell? ⟨rC.heap.size,3,none⟩=some (.slice B3 x.out.length e3):=aC (lC.out.cell 3);have x4:∀xw:WIn (fun v=>Below W2.heap.size W2 v),xw.w.cell? ⟨rC.heap.size,4,none⟩=some (.slice B4 x.calls.length e4):=aC (lC.out.cell 4);have tu:=hd0 (aP (W:=W2) (fun w' hw'=>Gh w' B0 e0 x.back (K0.out.lw akM.ok hw') HL0.out));have HA1:=hd0 (aP (W:=W2) (fun w' hw'=>Gh w' B1 e1 x.in' (K1.out.lw akM.ok hw') HL1.out));have HA2:=hd0 (aP (W:=W2) (fun w' hw'=>Gh w' B2 e2 x.ahead (K2.out.lw akM.ok hw') HL2.out));have EQ:=hd0 (aP (W:=W2) (fun w' hw'=>yO w' B3 e3 x.out (K3.out.lw akL.ok hw') rf.out));have HA4:=hd0 (aP (W:=W2) (fun w' _=>aF w' (x.calls.length) n4));have Yq:=hd0 (fun w'=>aF w' x.x I5.out);clear n4 HL0 HL1 HL2 rf;generalize S50++(rules.take k).flatMap ja=S53 at*
   generalize lh x.back=E0 at*
   generalize lh x.in'=E1 at*
   generalize lh x.ahead=E2 at*
   generalize rowB x.out=E3 at*
   generalize ai (x.calls.length:Int)=E4 at*
   generalize ai x.x=E6 at*
   have agK:∀w',(Op.stringOp .add ⟨S53.toArray⟩ ⟨E0.toArray⟩).run Tryz.prog w'= .ok (.string ⟨(S53++E0).toArray⟩) w':=bF S53 E0 (by omega);have aku:(S53++E0).length<=S53.length+E0.length:=bu _ _;generalize hS54:S53++E0=S54 at*
   have ahf:=hd0 hS54.symm;clear hS54;have agZ:∀w',(Op.stringOp .add ⟨S54.toArray⟩ ⟨E1.toArray⟩).run Tryz.prog w'= .ok (.string ⟨(S54++E1).toArray⟩) w':=bF S54 E1 (by omega);have aiX:(S54++E1).length<=S54.length+E1.length:=bu _ _;generalize hS55:S54++E1=S55 at*
   have agH:=hd0 hS55.symm;clear hS55;have ah8:∀w',(Op.stringOp .add ⟨S55.toArray⟩ ⟨E2.toArray⟩).run Tryz.prog w'= .ok (.string ⟨(S55++E2).toArray⟩) w':=bF S55 E2 (by omega);have ai1:(S55++E2).length<=S55.length+E2.length:=bu _ _;generalize hS56:S55++E2=S56 at*
   have agu:=hd0 hS56.symm;clear hS56;have ahL:∀w',(Op.stringOp .add ⟨S56.toArray⟩ ⟨E3.toArray⟩).run Tryz.prog w'= .ok (.string ⟨(S56++E3).toArray⟩) w':=bF S56 E3 (by omega);have ajD:(S56++E3).length<=S56.length+E3.length:=bu _ _;generalize hS57:S56++E3=S57 at*
   have ah1:=hd0 hS57.symm;clear hS57;have ahi:∀w',(Op.stringOp .add ⟨S57.toArray⟩ ⟨E4.toArray⟩).run Tryz.prog w'= .ok (.string ⟨(S57++E4).toArray⟩) w':=bF S57 E4 (by omega);have ajH:(S57++E4).length<=S57.length+E4.length:=bu _ _;generalize hS58:S57++E4=S58 at*
   have agT:=hd0 hS58.symm;clear hS58;refine bW (fun v=>Below W2.heap.size W2 v) (by kernel_rfl) (by kernel_rfl) ((ant W2.heap.size W2).drew) ?_;have bT:Nonempty (WIn (fun v=>Below W2.heap.size W2 v)):=⟨⟨_,((ant W2.heap.size W2).drew)⟩⟩
   repeat(go_big_quiet_step (first|with_reducible exact tu.out _|with_reducible exact HA1.out _|with_reducible exact HA2.out _|with_reducible exact EQ.out _|with_reducible exact HA4.out _))
   refine wpQuiet_nil ?_;intro _ hw';obtain⟨xq,hw''⟩:=hw';subst hw'';have Hwb:Hid (Below W2.heap.size W2 xq.w):=hd0 xq.ok;generalize xq.w=wb at*
   clear x0 x1 x2 x3 x4 tu HA1 HA2 EQ HA4 bT agK agZ ah8 ahL ahi;go_wp2_with fail
   go_loopw [3,6] (fun s i wr=>∃j:Nat,j<=x.calls.length/\i= .int .i64 j/\s= .string ⟨(S58++(x.calls.take j).flatMap jr).toArray⟩/\Below W2.heap.size W2 wr) (fun _ i _=>x.calls.length - (intOf i).toNat)
   case atStart=>exact⟨0,nz _,rfl,by simp,Hwb.out⟩
   case round=>
    obtain⟨wi,rfl⟩:∃x,x=wr:=⟨_,rfl⟩
    obtain⟨j,hj,rfl,rfl,hb⟩:=hrel;have EM:=hd0 hb;have c4:wi.cell? ⟨rC.heap.size,4,none⟩=some (.slice B4 x.calls.length e4):=((aj EM.out).1 _ _ z2).trans (lC.out.cell 4);by_cases hltj:j<x.calls.length
    ·
     obtain⟨b2,o2,y,rfl,-,hy,u0,u1,j0,j1⟩:=(K4.out.lw alu.ok hb).call hltj;have FU:Hid (S58++(x.calls.take (j+1)).flatMap jr=S58++(x.calls.take j).flatMap jr++ai y.at'++ai y.lookup):=by show _=_;rw[dU hy.out];simp[jr]
     have hf2:=gZ (f:=jr) hy.out;simp only[jr,la] at hf2;have hs2:(S58++(x.calls.take j).flatMap jr).length<=S58.length+((x.calls.take j).flatMap jr).length:=bu _ _;clear hy;have xc:∀xw:WIn (fun v=>Below wi.heap.size wi v),xw.w.cell? ⟨rC.heap.size,4,none⟩=some (.slice (some ⟨b2,o2,none⟩) x.calls.length e4):=aC c4;have xu0:∀xw:WIn (fun v=>Below wi.heap.size wi v),xw.w.cell? ⟨b2,o2+j*2,none⟩=some (.int .i64 y.at'):=aC u0;have xu1:∀xw:WIn (fun v=>Below wi.heap.size wi v),xw.w.cell? ⟨b2,o2+j*2+1,none⟩=some (.int .i64 y.lookup):=aC u1;have HB0:=hd0 (aP (W:=wi) (fun w' _=>aF w' (y.at') j0));have HB1:=hd0 (aP (W:=wi) (fun w' _=>aF w' (y.lookup) j1));generalize S58++(x.calls.take j).flatMap jr=S59 at*
     generalize ai y.at'=G0 at*
     generalize ai y.lookup=G1 at*
     have ajk:∀w',(Op.stringOp .add ⟨S59.toArray⟩ ⟨G0.toArray⟩).run Tryz.prog w'= .ok (.string ⟨(S59++G0).toArray⟩) w':=bF S59 G0 (by omega);have ajr:(S59++G0).length<=S59.length+G0.length:=bu _ _;generalize hS60:S59++G0=S60 at*
     have ahz:=hd0 hS60.symm;clear hS60;have akz:∀w',(Op.stringOp .add ⟨S60.toArray⟩ ⟨G1.toArray⟩).run Tryz.prog w'= .ok (.string ⟨(S60++G1).toArray⟩) w':=bF S60 G1 (by omega);have aiP:(S60++G1).length<=S60.length+G1.length:=bu _ _;generalize hS61:S60++G1=S61 at*
     have agn:=hd0 hS61.symm;clear hS61;clear hf2 hs2 hb u0 u1 j0 j1;go_wp2_with fail
     refine bW (fun v=>Below wi.heap.size wi v) (by kernel_rfl) (by kernel_rfl) ((ant wi.heap.size wi).drew) ?_;have bT:Nonempty (WIn (fun v=>Below wi.heap.size wi v)):=⟨⟨_,((ant wi.heap.size wi).drew)⟩⟩
     repeat(go_big_quiet_step (first|with_reducible exact HB0.out _|with_reducible exact HB1.out _))
     refine wpQuiet_nil ?_;intro _ hw';obtain⟨xq,hw''⟩:=hw';subst hw'';have oI:Hid (Below W2.heap.size W2 xq.w):=hd0 (EM.out.trans (xq.ok.mono EM.out.size));generalize xq.w=wz at*
     go_wp2_with fail
     go_roundw
     case rel=>exact⟨j+1,by omega,by simp,by rw[FU.out,agn.out,ahz.out],oI.out⟩
     case measure=>simp[intOf];omega
    obtain rfl:j=x.calls.length:=by omega
    rw[anA];have ajY:(S58++x.calls.flatMap jr).length<=S58.length+(x.calls.flatMap jr).length:=bu _ _;generalize hS62:S58++x.calls.flatMap jr=S62 at*
    have agF:=hd0 hS62.symm;clear hS62 hb;have c5:wi.cell? ⟨rC.heap.size,5,none⟩=some (.int .i64 x.x):=((aj EM.out).1 _ _ z2).trans (lC.out.cell 5);have aju:∀w',(Op.stringOp .add ⟨S62.toArray⟩ ⟨E6.toArray⟩).run Tryz.prog w'= .ok (.string ⟨(S62++E6).toArray⟩) w':=bF S62 E6 (by omega);have akj:(S62++E6).length<=S62.length+E6.length:=bu _ _;generalize hS63:S62++E6=S63 at*
    have agV:=hd0 hS63.symm;clear hS63;clear hf hs0;go_wp2_with fail
    refine(Yq.out _).mono ?_;rintro e wy ⟨rfl,hby⟩;have Hwy:Hid (Below W0.heap.size W0 wy):=hd0 (HW2.out.trans ((EM.out.mono HW2.out.size).trans (hby.mono (nt HW2.out.size EM.out.size))));clear hby;go_wp2_with fail
    go_roundw
    case rel=>exact⟨k+1,by omega,by simp,by rw[hsn.out,agV.out,agF.out,agT.out,ah1.out,agu.out,agH.out,ahf.out],Hwy.out⟩
    case measure=>simp[intOf];omega
  obtain rfl:k=rules.length:=by omega
  rw[anA];have aj7:(S50++rules.flatMap ja).length<=S50.length+(rules.flatMap ja).length:=bu _ _;generalize hS64:S50++rules.flatMap ja=S64 at*
  have agD:=hd0 hS64.symm;clear hS64;go_wp2_with fail
  go_ret
  exact⟨by rw[agD.out,ahK.out,agP.out];rfl,HW.out.trans (HX.out.mono HW.out.size)⟩
theorem xh {e t size:Nat}(E:ElT e t size)(ty:TypeId)(w1:World)(base n c:Nat)(A:Option Addr)(xs:List Value)(news:Array Value)(hnl:news.size=size)(hown:w1.ownsRow base e size (.slice A n c) n xs)(h1:∀u∈news.toList,u.oneCell'=true)(hn:n<=10000000000)(hb:base<=w1.heap.size):
  ∃A' c' w',(Builtin.append_ #[t,t] ty #[.slice A n c,.slice (some ⟨w1.heap.size,0,none⟩) 1 1]).run Tryz.prog (w1.alloc (.cells news e))= .ok (.slice A' (n+1) c') w'/\w'.ownsRow base e size (.slice A' (n+1) c') (n+1) (xs++news.toList)/\w1.grownBy w' (Value.slice A n c).ownBlock/\Loc w1 (.slice A n c) (.slice A' (n+1) c'):=by
 obtain⟨A',c',w',hrun,h2,h3,h4⟩:=vZ E ty (w1.alloc (.cells news e)) base n c A xs (hown.alloc _) (w1.heap.size+1) (some ⟨w1.heap.size,0,none⟩) 1 1 news.toList (Rd.newAt _ _ rfl news e 1 size (by omega)) h1 (by omega) (by simp;omega);refine⟨A',c',w',hrun,h2,⟨h3.os,h3.tape,h3.output,nt (by simp) h3.size,fun i hi hne=> ?_⟩,h4.imp id fun h5 g hg=>by have:=h5 g hg;simp at this;omega⟩;exact(h3.block i (by simp;omega) hne).trans (Below.heap_alloc _ _ _ hi)
theorem Z4 (w:World):(sizeOf 124).run Tryz.prog w= .ok 3 w:=by kernel_rfl
theorem acd (w:World):(sizeOf 3).run Tryz.prog w= .ok 1 w:=by kernel_rfl
theorem QY {T E size:Nat}(hT:Tryz.prog.underlying T=some (.slice E))(hs:∀w,(sizeOf E).run Tryz.prog w= .ok size w)(A:Option Addr)(n c k:Nat)(z:Int)(hz:z=(k:Int))(hk:k<=n)(w:World):
  (Instr.slice T (.slice A n c) (some (.int .i64 z)) none none).run Tryz.prog w= .ok (.slice (if c=k then A else A.map (·.add (k*size))) (n - k) (c - k)) w:=by
 subst hz;simp[Instr.slice,Instr.sliceBounds,Instr.sliceBound,asIntOf,run_underlying hT,hs,Result.andThen,hk]
theorem YA {α:Type}(f:α->List Value)(size:Nat)(hf:∀x,(f x).length=size)(l:List α)(k:Nat):(l.drop k).flatMap f=(l.flatMap f).drop (k*size):=by
 induction k generalizing l with
 |zero=>simp
 |succ k ih=>
  cases l with
  |nil=>simp
  |cons x r=>have hnil:(f x).drop ((k+1)*size)=[]:=an3 (by rw[hf,aom];omega);rw[List.drop_succ_cons,ih,anM,List.drop_append,hnil,hf,aom,Nat.one_mul,Nat.add_sub_cancel];rfl
theorem YO (ws:List P3)(k:Nat):dD (ws.drop k)=(dD ws).drop (k*3):=YA c3 3 (fun _=>rfl) ws k
theorem RdT.sub {w:World}{t:TypeId}{A:Option Addr}{n c k size:Nat}{cs:List Value}(h:RdT w t A n size cs)(hk:k<=n)(hc:n<=c):RdT w t (if c=k then A else A.map (·.add (k*size))) (n - k) size (cs.drop (k*size)):=by
 refine⟨by rw[an9,h.1,Nat.sub_mul],fun h0=> ?_⟩;obtain⟨b,o,cur,e,hb,hr⟩:=h.2 (by omega);rw[if_neg (by omega),e];refine⟨b,o+k*size,cur,?_,hb,fun j u hu=> ?_⟩
 ·simp only[Option.map_some,Addr.add];by_cases hz:k*size=0
  ·rw[if_pos hz,hz];rfl
  rw[if_neg hz]
 rw[List.getElem?_drop] at hu;rw[aog];exact hr _ u hu
theorem alg.sub {w:World}{A:Option Addr}{n c:Nat}{ws:List P3}(h:alg w A n ws)(hc:n<=c)(k:Nat)(z:Int)(hz:z=(k:Int))(hk:k<=n):
  ∃A',(∀w',(Instr.slice 119 (.slice A n c) (some (.int .i64 z)) none none).run Tryz.prog w'= .ok (.slice A' (n - k) (c - k)) w')/\RdT w 124 A' (n - k) 3 (dD (ws.drop k))/\(∀x∈ws.drop k,x.2.2.length<=100000000):=
 ⟨_,fun w'=>QY Tryz.underlying119 Z4 A n c k z hz hk w',by rw[YO];exact h.rd.sub hk hc,fun x hx=>h.len x (List.mem_of_mem_drop hx)⟩
theorem CU (ws:List P3)(k:Nat):ag (ws.drop k)=(ag ws).drop k:=by simp[ag,List.map_drop]
theorem jO {ws:List P3}{t:B}{l:List B}(h:ag ws=t::l):ag (ws.drop 1)=l:=by rw[CU,h];rfl
theorem zX {ws:List P3}(pr:B->Bool):ws.all (fun x=>pr x.2.2)=(ag ws).all pr:=by simp[ag,List.all_map,Function.comp_def]
attribute [-go_sem] Builtin.append_
def n9 (k:Nat):Nat:=k+1
theorem DC {gl:Gl}(h:∀t n,gl.lookup t=some n->n<=1000000000)(t:B):I64 (fP gl t):=by
 unfold fP I64;cases hl:gl.lookup t with
 |none=>exact⟨by decide,by decide⟩
 |some n=>have:=h t n hl;simp only[Option.getD_some];exact⟨by omega,by omega⟩
theorem ZV (gl:Gl)(s:PS)(l:List B)(h:l.length≠2):xI gl s l= .error 22:=by
 unfold xI;split
 ·simp at h
 rfl
theorem QB (w:World)(Bd p gm cm:Nat)(gl:Gl)(s:PS)(rv:Rows)(K:Nat)(A:Option Addr)(n c:Nat)(ws:List P3)(t:B)(l:List B)(hP:PSt w Bd p gm cm gl s rv K)(hL:alg w A n ws)(hT:ag ws=t::l)(hK:K<=10000000000):
  Calls Tryz.prog 86 #[.pointer (some ⟨p,0,none⟩),.slice A n c] w (akO w Bd p gm cm gl (K+n) (xI gl s l)):=by
 have hn:n=l.length+1:=by rw[<-hL.length];exact dF hT
 have hB:=hP.size;by_cases h1:l.length=2
 ·obtain⟨t1,t2,rfl⟩:∃t1 t2,l=[t1,t2]:=by
   match l,h1 with
   |[a1,a2],_=>exact⟨a1,a2,rfl⟩
  obtain⟨b,o,rfl,hb,q1,hz1⟩:=hL.word (k:=1) (t:=t1) (by rw[hT];rfl) (d:=3) rfl;obtain⟨b',o',e',-,q2,hz2⟩:=hL.word (k:=2) (t:=t2) (by rw[hT];rfl) (d:=6) rfl;obtain⟨rfl,rfl⟩:b=b'/\o=o':=by simpa using e'
  clear e';simp only[aT,ln] at hn;subst hn;have HP:=hd0 hP;have hpb:p<w.heap.size:=hP.par.lt;obtain⟨A0,c0,hv⟩:=hP.slice (i:=1) (by decide);have kp:w.cell? ⟨p,2,none⟩=some (rv 1).v:=hP.par.cell 2;rw[hv] at kp;have fp:=hP.par.frozen 2;have hfew:=hP.few 1 (by decide);have HR:Hid (xI gl s [t1,t2]=fin (jM gl (aK 0 t1) t2) {s with f:= {s.f with chars:=s.f.chars++[⟨aI t1,fP gl t2⟩]}}):=rfl;have qP:=hd0 (fun w rb er h=>dP w rb p er t1 h hz1);have HI1:=hd0 (dH t1);have rM:=hd0 (fun w rb er h hm=>zx w rb p gm gl er t2 h hm);have HI2:=hd0 (DC hP.glI t2);generalize aI t1=v1 at*
  generalize fP gl t2=v2 at*
  clear hP hL hT h1 hz1 hz2;go_enter Tryz.func86,Tryz.ntmps86
  go_wp2_with fail
  refine(gy w p).mono ?_;rintro e w1 ⟨rfl,hr1,hb1⟩;obtain⟨hc1,hf1⟩:=aj hb1;have L9:w1.cell? ⟨b,o+3+2,none⟩=some (.string ⟨t1.toArray⟩):=(hc1 _ _ hb).trans q1;have hl1:=hr1.lt;have hs1:=hb1.size;have hbl:b<w1.heap.size:=by omega
  have hbc:b≠w1.heap.size:=by omega
  have hpc:p≠w1.heap.size:=by omega
  have kP:=hd0 (hr1.alloc (.cells #[.int .i64 0,.int .i64 0] 93));have Hb1:=hd0 (hb1.alloc hs1 (.cells #[.int .i64 0,.int .i64 0] 93));have sO:Hid (Bk (w1.alloc (.cells #[.int .i64 0,.int .i64 0] 93)) w1.heap.size 93 #[.int .i64 0,.int .i64 0]):=Bk.new _ _ _;clear hr1 hb1;go_wp2_with fail
  refine(qP.out _ _ _ (by exact kP.out)).mono ?_;rintro e w2 ⟨rfl,hr2,hg2⟩;have hb2:=aZ Hb1.out hg2 (af _);obtain⟨hc2,hf2⟩:=aj hb2;have hk2:Bk w2 w1.heap.size 93 #[.int .i64 0,.int .i64 0]:=Bk.kept2 hg2 sO.out (by omega);have BN:w2.cell? ⟨w1.heap.size,0,none⟩=some (.int .i64 0):=hk2.cell 0;have adO:w2.cell? ⟨w1.heap.size,1,none⟩=some (.int .i64 0):=hk2.cell 1;have y2:=hk2.frozen 0;have hs2:=hk2.lt;have Ur:w2.cell? ⟨b,o+6+2,none⟩=some (.string ⟨t2.toArray⟩):=(hc2 _ _ hb).trans q2;have lM:Hid (Rdr (w2.setCell ⟨w1.heap.size,0,none⟩ (.int .i64 v1)) w.heap.size p (aK 0 t1)):=Bk.far hr2 (by simp;omega) _;have Hb2:=hd0 (hb2.setCell (p:=⟨w1.heap.size,0,none⟩) (by simp;omega) (.int .i64 v1));have lC:Hid (Bk (w2.setCell ⟨w1.heap.size,0,none⟩ (.int .i64 v1)) w1.heap.size 93 #[.int .i64 v1,.int .i64 0]):=hk2.set 0 _;clear hr2 hg2 hb2 hk2 hc1 hf1;go_wp2_with fail
  refine(rM.out _ _ _ (by exact lM.out) (by exact(HP.out.below Hb2.out).at.gm)).mono ?_;rintro e w3 ⟨rfl,hr3,hg3⟩;have hb3:=aZ Hb2.out hg3 (af _);obtain⟨hc3,hf3⟩:=aj hb3;have hk3:Bk w3 w1.heap.size 93 #[.int .i64 v1,.int .i64 0]:=Bk.kept2 hg3 lC.out (by omega);have Y7:w3.cell? ⟨w1.heap.size,0,none⟩=some (.int .i64 v1):=hk3.cell 0;have FP:w3.cell? ⟨w1.heap.size,1,none⟩=some (.int .i64 0):=hk3.cell 1;have y3:=hk3.frozen 1;have hs3:=hk3.lt;have lZ:Hid (Rdr (w3.setCell ⟨w1.heap.size,1,none⟩ (.int .i64 v2)) w.heap.size p (jM gl (aK 0 t1) t2)):=Bk.far hr3 (by simp;omega) _;have Hb3:=hd0 (hb3.setCell (p:=⟨w1.heap.size,1,none⟩) (by simp;omega) (.int .i64 v2));have jX:Hid (Bk (w3.setCell ⟨w1.heap.size,1,none⟩ (.int .i64 v2)) w1.heap.size 93 #[.int .i64 v1,.int .i64 v2]):=hk3.set 1 _;clear hr3 hg3 hb3 hk3 hc2 hf2;go_wp2_with fail
  obtain⟨W1,hW1⟩:∃W1,w3.setCell ⟨w1.heap.size,1,none⟩ (.int .i64 v2)=W1:=⟨_,rfl⟩
  rw[hW1];have Hr:=lZ;have Hb:=Hb3;have eY:=jX;rw[hW1] at Hr Hb eY;have vG:W1.cell? ⟨w1.heap.size,0,none⟩=some (.int .i64 v1):=eY.out.cell 0;have xB:W1.cell? ⟨w1.heap.size,1,none⟩=some (.int .i64 v2):=eY.out.cell 1;have aJ:=HP.out.below Hb.out;have xK:W1.cell? ⟨p,2,none⟩=some (.slice A0 (rv 1).n c0):=((aj Hb.out).1 _ _ hpb).trans kp;have zp:p<W1.heap.size:=aJ.par.lt;have zc:w1.heap.size<W1.heap.size:=eY.out.lt;have zr:w.heap.size<W1.heap.size:=Hr.out.lt;have hown:=aJ.live.own 1 (by decide);rw[hv] at hown;obtain⟨A5,c5,w9,hrun,aS,ax,bi⟩:=iy Xi 25 W1 Bd _ c0 A0 _ #[.int .i64 v1,.int .i64 v2] rfl hown (by simp[Value.oneCell']) (by omega) (by omega);rw[<-hv] at ax bi;have bP:Bk w9 p jy (dW s rv gm cm):=(aJ.row (i:=1) (by decide) (r:=⟨.slice A5 ((rv 1).n+1) c5,_,_⟩) ax aS bi).1;have jJ:=Bk.grown Hr.out ax (aJ.live.own 1 (by decide)) (by decide);have x9:w9.cell? ⟨p,2,none⟩=some (rv 1).v:=bP.cell 2;have y9:=bP.frozen 2;have z9:w9.cell? ⟨w.heap.size,1,none⟩=some (.int .i64 (jM gl (aK 0 t1) t2)):=jJ.cell 1;generalize her:jM gl (aK 0 t1) t2=er at*
  have bK:=hd0 (PSt.amy (m:=1) (K':=K+n9 2) aJ ax aS bi (ys:=[⟨v1,v2⟩]) rfl (Fl.one (R:=alm) (⟨rfl,HI1.out,HI2.out⟩) rfl) (by unfold n9;simp));have iD:=hd0 ((Hb.out.mono hB).trans (aJ.alD (i:=1) (by decide) ax 2 (.slice A5 ((rv 1).n+1) c5) aJ.size));have HQ:=hd0 (KQ.below (cm:=cm) Hb.out);clear hW1 hown aS ax bi bP jJ aJ;go_region
  all_goals
   go_wp2;go_ret
   exact akO.fin HR.out iD.out (HQ.out.trans bK.out.2) bK.out.1
 have HR:=hd0 (ZV gl s l h1);have e1:((n:Int)==3)=false:=by simp;omega
 have e2:((n:Int) !=3)=true:=by simp;omega
 clear hP hL hT h1 hn;go_enter Tryz.func86,Tryz.ntmps86
 go_wp2;go_ret
 exact akO.bad HR.out (ant _ _)
theorem Ze (gl:Gl)(s:PS)(l:List B)(h:l.length≠4):xx s l= .error 22:=by
 unfold xx;split
 ·simp at h
 rfl
theorem Qs (w:World)(Bd p gm cm:Nat)(gl:Gl)(s:PS)(rv:Rows)(K:Nat)(A:Option Addr)(n c:Nat)(ws:List P3)(t:B)(l:List B)(hP:PSt w Bd p gm cm gl s rv K)(hL:alg w A n ws)(hT:ag ws=t::l)(hK:K<=10000000000):
  Calls Tryz.prog 74 #[.pointer (some ⟨p,0,none⟩),.slice A n c] w (akO w Bd p gm cm gl (K+n) (xx s l)):=by
 have hn:n=l.length+1:=by rw[<-hL.length];exact dF hT
 have hB:=hP.size;by_cases h1:l.length=4
 ·obtain⟨t1,t2,t3,t4,rfl⟩:∃t1 t2 t3 t4,l=[t1,t2,t3,t4]:=by
   match l,h1 with
   |[a1,a2,a3,a4],_=>exact⟨a1,a2,a3,a4,rfl⟩
  obtain⟨b,o,rfl,hb,q1,hz1⟩:=hL.word (k:=1) (t:=t1) (by rw[hT];rfl) (d:=3) rfl;obtain⟨b',o',e',-,q2,hz2⟩:=hL.word (k:=2) (t:=t2) (by rw[hT];rfl) (d:=6) rfl;obtain⟨rfl,rfl⟩:b=b'/\o=o':=by simpa using e'
  clear e';obtain⟨b',o',e',-,q3,hz3⟩:=hL.word (k:=3) (t:=t3) (by rw[hT];rfl) (d:=9) rfl;obtain⟨rfl,rfl⟩:b=b'/\o=o':=by simpa using e'
  clear e';obtain⟨b',o',e',-,q4,QO⟩:=hL.word (k:=4) (t:=t4) (by rw[hT];rfl) (d:=12) rfl;obtain⟨rfl,rfl⟩:b=b'/\o=o':=by simpa using e'
  clear e';simp only[aT,ln] at hn;subst hn;have HP:=hd0 hP;have hpb:p<w.heap.size:=hP.par.lt;obtain⟨A0,c0,hv⟩:=hP.slice (i:=4) (by decide);have kp:w.cell? ⟨p,5,none⟩=some (rv 4).v:=hP.par.cell 5;rw[hv] at kp;have fp:=hP.par.frozen 5;have hfew:=hP.few 4 (by decide);have HR:Hid (xx s [t1,t2,t3,t4]=fin (aK (aK (aK (bD 0 t1) t2) t3) t4) {s with f:= {s.f with akP:=s.f.akP++[⟨t1,aI t2,aI t3,aI t4⟩]}}):=rfl;have qP:=hd0 (fun w rb er h=>yz w rb p er t1 h);have rM:=hd0 (fun w rb er h=>dP w rb p er t2 h hz2);have HI2:=hd0 (dH t2);have AL:=hd0 (fun w rb er h=>dP w rb p er t3 h hz3);have HI3:=hd0 (dH t3);have Po:=hd0 (fun w rb er h=>dP w rb p er t4 h QO);have HI4:=hd0 (dH t4);generalize aI t2=v2 at*
  generalize aI t3=v3 at*
  generalize aI t4=v4 at*
  clear hP hL hT h1 hz1 hz2 hz3 QO;go_enter Tryz.func74,Tryz.ntmps74
  go_wp2_with fail
  refine(gy w p).mono ?_;rintro e w1 ⟨rfl,hr1,hb1⟩;obtain⟨hc1,hf1⟩:=aj hb1;have L9:w1.cell? ⟨b,o+3+2,none⟩=some (.string ⟨t1.toArray⟩):=(hc1 _ _ hb).trans q1;have hl1:=hr1.lt;have hs1:=hb1.size;have hbl:b<w1.heap.size:=by omega
  have hbc:b≠w1.heap.size:=by omega
  have hpc:p≠w1.heap.size:=by omega
  have kP:=hd0 (hr1.alloc (.cells #[.string ⟨#[]⟩,.int .i64 0,.int .i64 0,.int .i64 0] 99));have Hb1:=hd0 (hb1.alloc hs1 (.cells #[.string ⟨#[]⟩,.int .i64 0,.int .i64 0,.int .i64 0] 99));have sO:Hid (Bk (w1.alloc (.cells #[.string ⟨#[]⟩,.int .i64 0,.int .i64 0,.int .i64 0] 99)) w1.heap.size 99 #[.string ⟨#[]⟩,.int .i64 0,.int .i64 0,.int .i64 0]):=Bk.new _ _ _;clear hr1 hb1;go_wp2_with fail
  refine(qP.out _ _ _ (by exact kP.out)).mono ?_;rintro e w2 ⟨rfl,hr2,hg2⟩;have hb2:=aZ Hb1.out hg2 (af _);obtain⟨hc2,hf2⟩:=aj hb2;have hk2:Bk w2 w1.heap.size 99 #[.string ⟨#[]⟩,.int .i64 0,.int .i64 0,.int .i64 0]:=Bk.kept2 hg2 sO.out (by omega);have BN:w2.cell? ⟨w1.heap.size,0,none⟩=some (.string ⟨#[]⟩):=hk2.cell 0;have adO:w2.cell? ⟨w1.heap.size,1,none⟩=some (.int .i64 0):=hk2.cell 1;have ah0:w2.cell? ⟨w1.heap.size,2,none⟩=some (.int .i64 0):=hk2.cell 2;have ajb:w2.cell? ⟨w1.heap.size,3,none⟩=some (.int .i64 0):=hk2.cell 3;have y2:=hk2.frozen 0;have hs2:=hk2.lt;have Ur:w2.cell? ⟨b,o+6+2,none⟩=some (.string ⟨t2.toArray⟩):=(hc2 _ _ hb).trans q2;have aho:w2.cell? ⟨b,o+9+2,none⟩=some (.string ⟨t3.toArray⟩):=(hc2 _ _ hb).trans q3;have ajq:w2.cell? ⟨b,o+12+2,none⟩=some (.string ⟨t4.toArray⟩):=(hc2 _ _ hb).trans q4;have lM:Hid (Rdr (w2.setCell ⟨w1.heap.size,0,none⟩ (.string ⟨t1.toArray⟩)) w.heap.size p (bD 0 t1)):=Bk.far hr2 (by simp;omega) _;have Hb2:=hd0 (hb2.setCell (p:=⟨w1.heap.size,0,none⟩) (by simp;omega) (.string ⟨t1.toArray⟩));have lC:Hid (Bk (w2.setCell ⟨w1.heap.size,0,none⟩ (.string ⟨t1.toArray⟩)) w1.heap.size 99 #[.string ⟨t1.toArray⟩,.int .i64 0,.int .i64 0,.int .i64 0]):=hk2.set 0 _;clear hr2 hg2 hb2 hk2 hc1 hf1;go_wp2_with fail
  refine(rM.out _ _ _ (by exact lM.out)).mono ?_;rintro e w3 ⟨rfl,hr3,hg3⟩;have hb3:=aZ Hb2.out hg3 (af _);obtain⟨hc3,hf3⟩:=aj hb3;have hk3:Bk w3 w1.heap.size 99 #[.string ⟨t1.toArray⟩,.int .i64 0,.int .i64 0,.int .i64 0]:=Bk.kept2 hg3 lC.out (by omega);have Y7:w3.cell? ⟨w1.heap.size,0,none⟩=some (.string ⟨t1.toArray⟩):=hk3.cell 0;have FP:w3.cell? ⟨w1.heap.size,1,none⟩=some (.int .i64 0):=hk3.cell 1;have ag4:w3.cell? ⟨w1.heap.size,2,none⟩=some (.int .i64 0):=hk3.cell 2;have aky:w3.cell? ⟨w1.heap.size,3,none⟩=some (.int .i64 0):=hk3.cell 3;have y3:=hk3.frozen 1;have hs3:=hk3.lt;have agp:w3.cell? ⟨b,o+9+2,none⟩=some (.string ⟨t3.toArray⟩):=(hc3 _ _ hb).trans q3;have aiV:w3.cell? ⟨b,o+12+2,none⟩=some (.string ⟨t4.toArray⟩):=(hc3 _ _ hb).trans q4;have lZ:Hid (Rdr (w3.setCell ⟨w1.heap.size,1,none⟩ (.int .i64 v2)) w.heap.size p (aK (bD 0 t1) t2)):=Bk.far hr3 (by simp;omega) _;have Hb3:=hd0 (hb3.setCell (p:=⟨w1.heap.size,1,none⟩) (by simp;omega) (.int .i64 v2));have jX:Hid (Bk (w3.setCell ⟨w1.heap.size,1,none⟩ (.int .i64 v2)) w1.heap.size 99 #[.string ⟨t1.toArray⟩,.int .i64 v2,.int .i64 0,.int .i64 0]):=hk3.set 1 _;clear hr3 hg3 hb3 hk3 hc2 hf2;go_wp2_with fail
  refine(AL.out _ _ _ (by exact lZ.out)).mono ?_;rintro e w4 ⟨rfl,hr4,hg4⟩;have hb4:=aZ Hb3.out hg4 (af _);obtain⟨hc4,hf4⟩:=aj hb4;have hk4:Bk w4 w1.heap.size 99 #[.string ⟨t1.toArray⟩,.int .i64 v2,.int .i64 0,.int .i64 0]:=Bk.kept2 hg4 jX.out (by omega);have ae5:w4.cell? ⟨w1.heap.size,0,none⟩=some (.string ⟨t1.toArray⟩):=hk4.cell 0;have agW:w4.cell? ⟨w1.heap.size,1,none⟩=some (.int .i64 v2):=hk4.cell 1;have ahe:w4.cell? ⟨w1.heap.size,2,none⟩=some (.int .i64 0):=hk4.cell 2;have akw:w4.cell? ⟨w1.heap.size,3,none⟩=some (.int .i64 0):=hk4.cell 3;have y4:=hk4.frozen 2;have hs4:=hk4.lt;have akD:w4.cell? ⟨b,o+12+2,none⟩=some (.string ⟨t4.toArray⟩):=(hc4 _ _ hb).trans q4;have YE:Hid (Rdr (w4.setCell ⟨w1.heap.size,2,none⟩ (.int .i64 v3)) w.heap.size p (aK (aK (bD 0 t1) t2) t3)):=Bk.far hr4 (by simp;omega) _;have Hb4:=hd0 (hb4.setCell (p:=⟨w1.heap.size,2,none⟩) (by simp;omega) (.int .i64 v3));have VW:Hid (Bk (w4.setCell ⟨w1.heap.size,2,none⟩ (.int .i64 v3)) w1.heap.size 99 #[.string ⟨t1.toArray⟩,.int .i64 v2,.int .i64 v3,.int .i64 0]):=hk4.set 2 _;clear hr4 hg4 hb4 hk4 hc3 hf3;go_wp2_with fail
  refine(Po.out _ _ _ (by exact YE.out)).mono ?_;rintro e w5 ⟨rfl,nY,hg5⟩;have hb5:=aZ Hb4.out hg5 (af _);obtain⟨hc5,hf5⟩:=aj hb5;have hk5:Bk w5 w1.heap.size 99 #[.string ⟨t1.toArray⟩,.int .i64 v2,.int .i64 v3,.int .i64 0]:=Bk.kept2 hg5 VW.out (by omega);have ai0:w5.cell? ⟨w1.heap.size,0,none⟩=some (.string ⟨t1.toArray⟩):=hk5.cell 0;have ai7:w5.cell? ⟨w1.heap.size,1,none⟩=some (.int .i64 v2):=hk5.cell 1;have ai4:w5.cell? ⟨w1.heap.size,2,none⟩=some (.int .i64 v3):=hk5.cell 2;have akl:w5.cell? ⟨w1.heap.size,3,none⟩=some (.int .i64 0):=hk5.cell 3;have y5:=hk5.frozen 3;have hs5:=hk5.lt;have RJ:Hid (Rdr (w5.setCell ⟨w1.heap.size,3,none⟩ (.int .i64 v4)) w.heap.size p (aK (aK (aK (bD 0 t1) t2) t3) t4)):=Bk.far nY (by simp;omega) _;have Hb5:=hd0 (hb5.setCell (p:=⟨w1.heap.size,3,none⟩) (by simp;omega) (.int .i64 v4));have HK5:Hid (Bk (w5.setCell ⟨w1.heap.size,3,none⟩ (.int .i64 v4)) w1.heap.size 99 #[.string ⟨t1.toArray⟩,.int .i64 v2,.int .i64 v3,.int .i64 v4]):=hk5.set 3 _;clear nY hg5 hb5 hk5 hc4 hf4;go_wp2_with fail
  obtain⟨W1,hW1⟩:∃W1,w5.setCell ⟨w1.heap.size,3,none⟩ (.int .i64 v4)=W1:=⟨_,rfl⟩
  rw[hW1];have Hr:=RJ;have Hb:=Hb5;have eY:=HK5;rw[hW1] at Hr Hb eY;have vG:W1.cell? ⟨w1.heap.size,0,none⟩=some (.string ⟨t1.toArray⟩):=eY.out.cell 0;have xB:W1.cell? ⟨w1.heap.size,1,none⟩=some (.int .i64 v2):=eY.out.cell 1;have Az:W1.cell? ⟨w1.heap.size,2,none⟩=some (.int .i64 v3):=eY.out.cell 2;have Df:W1.cell? ⟨w1.heap.size,3,none⟩=some (.int .i64 v4):=eY.out.cell 3;have aJ:=HP.out.below Hb.out;have xK:W1.cell? ⟨p,5,none⟩=some (.slice A0 (rv 4).n c0):=((aj Hb.out).1 _ _ hpb).trans kp;have zp:p<W1.heap.size:=aJ.par.lt;have zc:w1.heap.size<W1.heap.size:=eY.out.lt;have zr:w.heap.size<W1.heap.size:=Hr.out.lt;have hown:=aJ.live.own 4 (by decide);rw[hv] at hown;obtain⟨A5,c5,w9,hrun,aS,ax,bi⟩:=iy XR 28 W1 Bd _ c0 A0 _ #[.string ⟨t1.toArray⟩,.int .i64 v2,.int .i64 v3,.int .i64 v4] rfl hown (by simp[Value.oneCell']) (by omega) (by omega);rw[<-hv] at ax bi;have bP:Bk w9 p jy (dW s rv gm cm):=(aJ.row (i:=4) (by decide) (r:=⟨.slice A5 ((rv 4).n+1) c5,_,_⟩) ax aS bi).1;have jJ:=Bk.grown Hr.out ax (aJ.live.own 4 (by decide)) (by decide);have x9:w9.cell? ⟨p,5,none⟩=some (rv 4).v:=bP.cell 5;have y9:=bP.frozen 5;have z9:w9.cell? ⟨w.heap.size,1,none⟩=some (.int .i64 (aK (aK (aK (bD 0 t1) t2) t3) t4)):=jJ.cell 1;generalize her:aK (aK (aK (bD 0 t1) t2) t3) t4=er at*
  have bK:=hd0 (PSt.amB (m:=1) (K':=K+n9 4) aJ ax aS bi (ys:=[⟨t1,v2,v3,v4⟩]) rfl (Fl.one (R:=ale) (⟨rfl,HI2.out,HI3.out,HI4.out⟩) rfl) (by unfold n9;simp));have iD:=hd0 ((Hb.out.mono hB).trans (aJ.alD (i:=4) (by decide) ax 5 (.slice A5 ((rv 4).n+1) c5) aJ.size));have HQ:=hd0 (KQ.below (cm:=cm) Hb.out);clear hW1 hown aS ax bi bP jJ aJ;go_region
  all_goals
   go_wp2;go_ret
   exact akO.fin HR.out iD.out (HQ.out.trans bK.out.2) bK.out.1
 have HR:=hd0 (Ze gl s l h1);have e1:((n:Int)==5)=false:=by simp;omega
 have e2:((n:Int) !=5)=true:=by simp;omega
 clear hP hL hT h1 hn;go_enter Tryz.func74,Tryz.ntmps74
 go_wp2;go_ret
 exact akO.bad HR.out (ant _ _)
end Go.Proofs.YtkijckccfookeaaGreatDoor
