/- Lemmas. -/
import Derived.Test.YtkijckccfookeaaGreatDoorV45
import Derived.Test.YtkijckccfookeaaGreatDoorFirstP
import Derived.Test.YtkijckccfookeaaGreatDoorOpenA
import Derived.Test.YtkijckccfookeaaGreatDoorCards
import Derived.Test.YtkijckccfookeaaGreatDoorTie
import Derived.LaidMore
import Derived.Lay
set_option linter.unusedVariables false
set_option linter.unusedSimpArgs false
set_option maxRecDepth 100000
set_option maxHeartbeats 32000000
namespace Go.Proofs.YtkijckccfookeaaGreatDoor
section
open Go.RowKit
theorem adT (b:B)(k:Nat)(c:UInt8)(h:b[k]? =some c):xB (b.take (k+1))=xB (b.take k)++[120]++[c]:=by rw[aq1,h];simp[xB]
theorem ZV (b:B):(xB b).length=2*b.length:=by
 induction b with
 |nil=>rfl
 |cons c b ih=>show(120::c::xB b).length=_;simp only[ay,ih];omega
theorem Jw (w:World)(A:Option Addr)(n c:Nat)(zs:List Int)(hc:n<=c)(hr:Rd w w.heap.size A n 1 (aP zs))(hz:∀z∈zs,I64 z)(q0 q1:Int)(bh:B)(fF:aoi w)(ng:nT<=w.heap.size):
  Calls Tryz.prog 8 #[.slice A n c,.agg #[.int .i64 q0,.int .i64 q1],.string ⟨bh.toArray⟩] w fun e w'=>e= .returned (.bool true)/\Below w.heap.size w w':=by
 have hmk:=hd0 (fun(v:World) (hb:Below w.heap.size w v)=>EU v A n c zs hc ((hr.below hb (ag _)).mono hb.size) hz);have Cf:=hd0 fF;have hsh:=hd0 (fun(v:World) (hb:Below w.heap.size w v)=>EM v (Cf.out.below hb) (nt ng hb.size));have O9:=hd0 (fun(v:World) (hb:Below w.heap.size w v) (s:B) (hs:s.length<=100000000)=>oh v s hs (Cf.out.below hb) (nt ng hb.size));clear hr hz fF;go_enter Tryz.func8,Tryz.ntmps8
 go_wp2_with fail
 obtain⟨W0,hW0⟩:∃x,w.alloc (.cells #[.int .i64 q0,.int .i64 q1] 63)=x:=⟨_,rfl⟩
 rw[hW0];have hb0:Below w.heap.size w W0:=by rw[<-hW0];exact(aqk _ _).alloc (ag _) _
 have hk0:Bk W0 w.heap.size 63 #[.int .i64 q0,.int .i64 q1]:=by rw[<-hW0];exact Bk.new _ _ _
 have HB0:=hd0 hb0;have QL:=hd0 hk0;have z0:=hk0.lt;have hz0:=hb0.size;clear hW0 hb0 hk0;refine(hsh.out W0 HB0.out).mono ?_;rintro e w1 ⟨rfl,hb1⟩;have c0:w1.cell? ⟨w.heap.size,0,none⟩=some (.int .i64 q0):=((af hb1).1 _ _ z0).trans (QL.out.cell 0);have c1:w1.cell? ⟨w.heap.size,1,none⟩=some (.int .i64 q1):=((af hb1).1 _ _ z0).trans (QL.out.cell 1);have HB1:Hid (Below w.heap.size w w1):=hd0 (HB0.out.trans (hb1.mono hz0));have z1:w.heap.size<w1.heap.size:=aqu z0 hb1.size;clear hb1 HB0 QL;go_wp2_with fail
 have zI:Hid (Below w.heap.size w w1.drew):=hd0 HB1.out.drew;have d0:w1.drew.cell? ⟨w.heap.size,0,none⟩=some (.int .i64 q0):=c0;have d1:w1.drew.cell? ⟨w.heap.size,1,none⟩=some (.int .i64 q1):=c1;have Gy:w.heap.size<w1.drew.heap.size:=z1
 go_region_held3 (fun w'=>w'.cell? ⟨w.heap.size,0,none⟩=some (.int .i64 q0)/\w'.cell? ⟨w.heap.size,1,none⟩=some (.int .i64 q1)) (first|with_reducible exact⟨c0,c1⟩|with_reducible exact⟨d0,d1⟩|with_reducible exact⟨x0,x1⟩|with_reducible exact⟨y0,y1⟩|with_reducible exact⟨u0,u1⟩) (first
  |(go_at_call 23;refine(hmk.out w1.drew zI.out).mono ?_;rintro e v1 ⟨f,fc,hm,rfl,hf,hbv⟩;have OQ:Hid (Below w.heap.size w v1):=hd0 (zI.out.trans (hbv.mono zI.out.size));have x0:v1.cell? ⟨w.heap.size,0,none⟩=some (.int .i64 q0):=((af hbv).1 _ _ Gy).trans d0;have x1:v1.cell? ⟨w.heap.size,1,none⟩=some (.int .i64 q1):=((af hbv).1 _ _ Gy).trans d1;have Gh:=aqu Gy hbv.size;have HM:=hd0 hm;have HF:=hd0 hf;clear hbv hm hf)
  |(go_at_call 24;refine(QZ HM.out HF.out (aqk _ _)).mono ?_;rintro e v2 ⟨S,hS,rfl,hbv⟩;have xO:Hid (Below w.heap.size w v2):=hd0 (OQ.out.trans (hbv.mono OQ.out.size));have y0:v2.cell? ⟨w.heap.size,0,none⟩=some (.int .i64 q0):=((af hbv).1 _ _ Gh).trans x0;have y1:v2.cell? ⟨w.heap.size,1,none⟩=some (.int .i64 q1):=((af hbv).1 _ _ Gh).trans x1;have QQ:=aqu Gh hbv.size;clear hbv HM HF)
  |(go_at_call 29;refine(L9 v2 S q0 q1 (nt hS (by decide))).mono ?_;rintro e v3 ⟨⟨T,rfl,hT⟩,hbv⟩;have Es:Hid (Below w.heap.size w v3):=hd0 (xO.out.trans (hbv.mono xO.out.size));have u0:v3.cell? ⟨w.heap.size,0,none⟩=some (.int .i64 q0):=((af hbv).1 _ _ QQ).trans y0;have u1:v3.cell? ⟨w.heap.size,1,none⟩=some (.int .i64 q1):=((af hbv).1 _ _ QQ).trans y1;clear hbv))
 clear x0 x1 y0 y1 u0 u1 c0 c1 d0 d1 OQ xO Gh QQ hmk hsh HB1 zI Gy;have hTl:T.length<=160016:=by omega
 have hfw:=hd0 (RX T (bh.take (min bh.length 200)));go_wp2_with fail
 refine(O9.out v3 Es.out T (by omega)).mono ?_;rintro e w4 Eu;obtain⟨hb4,u,A1,A2,A3,A4,A5,A6,A7,A8,n1,n2,n3,n4,n5,n6,n7,n8,k1,k2,k3,k4,k5,k6,k7,k8,na,ca,rfl,hm⟩:=Eu.nine;have HM:=hd0 hm;have HB4:Hid (Below w.heap.size w w4):=hd0 (Es.out.trans (hb4.mono Es.out.size));have z4:=HB4.out.size;clear hb4 hm Eu Es;go_wp2_with fail
 have qK:=hd0 (HB4.out.alloc z4 (.cells #[.int .i64 u,.slice A1 n1 k1,.slice A2 n2 k2,.slice A3 n3 k3,.slice A4 n4 k4,.slice A5 n5 k5,.slice A6 n6 k6,.slice A7 n7 k7,.slice A8 n8 k8] 32));generalize w4.alloc _=W5 at*
 have z5:=qK.out.size;go_loopw [12,13] (fun m i wr=>∃k:Nat,k<=bh.length/\k<=200/\m= .string ⟨(xB (bh.take k)).toArray⟩/\i= .int .i64 k/\W5=wr) (fun _ i _=>200 - (intOf i).toNat)
 case atStart=>exact⟨0,by omega,by omega,rfl,rfl,rfl⟩
 case round=>
  obtain⟨k,hk,hk2,rfl,rfl,rfl⟩:=hrel;by_cases hlt:k<bh.length/\k<200
  ·obtain⟨hlt1,hlt2⟩:=hlt;obtain⟨c,hc⟩:∃c,bh[k]? =some c:=⟨_,aqn hlt1⟩
   have hx:(ByteArray.mk bh.toArray).extract k (k+1)=⟨[c].toArray⟩:=by rw[fG,aq1,hc,List.drop_append,aqH,Nat.min_eq_left (by omega),aqU (by rw[aqH];omega)];simp
   have hsn:=hd0 (adT bh k c hc);have hl1:(xB (bh.take k)).length<=400:=by rw[ZV,aqH];omega
   clear hc;generalize xB (bh.take k)=M at*
   have ha1:(ByteArray.mk M.toArray)++⟨#[120]⟩=⟨(M++[120]).toArray⟩:=dN M [120];have hl2:(M++[120]).length<=401:=by simp;omega
   generalize hM2:M++[120]=M2 at*
   have ha2:(ByteArray.mk M2.toArray)++⟨[c].toArray⟩=⟨(M2++[c]).toArray⟩:=dN M2 [c];clear hM2;go_wp2_with fail
   go_roundw
   case rel=>exact⟨k+1,by omega,by omega,by rw[hsn.out],by simp,by trivial⟩
   case measure=>simp[intOf];omega
  obtain rfl:k=min bh.length 200:=by omega
  have hl1:(xB (bh.take (min bh.length 200))).length<=400:=by rw[ZV,aqH];omega
  generalize xB (bh.take (min bh.length 200))=M at*
  have ha1:(ByteArray.mk T.toArray)++⟨#[10,110,111,116,104,105,110,103,32]⟩=⟨(T++[10,110,111,116,104,105,110,103,32]).toArray⟩:=dN T [10,110,111,116,104,105,110,103,32];have hl2:(T++[10,110,111,116,104,105,110,103,32]).length<=160030:=by simp;omega
  have he2:T++[10,110,111,116,104,105,110,103,32]++M=T++10::(yZ++32::M):=by simp[yZ]
  rw[<-he2] at hfw;clear he2;generalize T++[10,110,111,116,104,105,110,103,32]=T2 at*
  have ha2:=dN T2 M;have hl3:(T2++M).length<=160430:=by rw[az];omega
  generalize T2++M=T3 at*
  have Qh:=hd0 (O9.out W5 qK.out T3 (by omega));rw[hfw.out] at Qh;clear hfw;cases hp:dw T with
  |error x=>
   obtain⟨nx,cx⟩:=x;rw[hp] at HM Qh;obtain⟨rfl,rfl⟩:na=nx/\ca=cx:=HM.out;have hz:ca≠0:=QS hp;have hz1:(ca !=0)=true:=by simpa using hz
   clear hp HM;go_wp2_with fail
   all_goals
    refine Qh.out.mono ?_;rintro e w6 AQ;obtain⟨hb6,u2,B1,B2,B3,B4,B5,B6,B7,B8,m1,m2,m3,m4,m5,m6,m7,m8,j1,j2,j3,j4,j5,j6,j7,j8,nb,cb,rfl,hm⟩:=AQ.nine;obtain⟨rfl,rfl⟩:nb=na/\cb=ca:=hm;have LZ:Hid (Below w.heap.size w w6):=hd0 (qK.out.trans (hb6.mono z5));have z6:=LZ.out.size;clear hb6 AQ;go_wp2_with fail
    go_ret
    exact⟨rfl,LZ.out.alloc z6 _⟩
  |ok f=>
   rw[hp] at HM Qh;obtain⟨rfl,rfl⟩:na=0/\ca=0:=HM.out;clear hp HM;go_wp2_with fail
   all_goals
    refine Qh.out.mono ?_;rintro e w6 AQ;obtain⟨hb6,u2,B1,B2,B3,B4,B5,B6,B7,B8,m1,m2,m3,m4,m5,m6,m7,m8,j1,j2,j3,j4,j5,j6,j7,j8,nb,cb,rfl,hm⟩:=AQ.nine;obtain⟨rfl,rfl⟩:nb=((T.count 10+2:Nat):Int)/\cb=22:=hm;have LZ:Hid (Below w.heap.size w w6):=hd0 (qK.out.trans (hb6.mono z5));have z6:=LZ.out.size;clear hb6 AQ;go_wp2_with fail
    have HB7:=hd0 (LZ.out.alloc z6 (.cells #[.int .i64 u2,.slice B1 m1 j1,.slice B2 m2 j2,.slice B3 m3 j3,.slice B4 m4 j4,.slice B5 m5 j5,.slice B6 m6 j6,.slice B7 m7 j7,.slice B8 m8 j8] 32));generalize w6.alloc _=W6 at*
    go_loopw [17,18] (fun m i wr=>∃k:Nat,k<=T.length/\m= .int .i64 ((T.take k).count 10:Nat)/\i= .int .i64 k/\W6=wr) (fun _ i _=>T.length - (intOf i).toNat)
    case atStart=>exact⟨0,by omega,by simp,rfl,rfl⟩
    case round=>
     obtain⟨k,hk,rfl,rfl,rfl⟩:=hrel;have hcl:(T.take k).count 10<=160016:=nt List.count_le_length (by rw[aqH];omega);by_cases hlt:k<T.length
     ·obtain⟨c,hc⟩:∃c,T[k]? =some c:=⟨_,aqn hlt⟩
      have hb:=byte_at T k c hc hlt;have hct:=hd0 (PY T k c hc);clear hc;generalize (T.take k).count 10=q at*
      by_cases h10:c=10
      ·rw[if_pos h10] at hct;have e1:((c.toNat:Int)==10)=true:=by rw[h10];rfl
       go_wp2_with fail
       go_roundw
       case rel=>exact⟨k+1,by omega,by rw[hct.out];simp,by simp,by trivial⟩
       case measure=>simp[intOf];omega
      rw[if_neg h10] at hct;have e1:((c.toNat:Int)==10)=false:=by
       have:c.toNat≠10:=fun h=>h10 (UInt8.toNat_inj.1 h)
       simp;omega
      go_wp2_with fail
      go_roundw
      case rel=>exact⟨k+1,by omega,by rw[hct.out];simp,by simp,by trivial⟩
      case measure=>simp[intOf];omega
     obtain rfl:k=T.length:=by omega
     rw[aqr] at*
     generalize T.count 10=q at*
     go_wp2_with fail
     go_ret
     exact⟨rfl,HB7.out⟩
end
section
open Go.ChangeShapes Go.WideShapes Go.ChangeAt Go.RowKit
open Go.ChangeMaps (open_string shut_string)
set_option linter.unusedVariables false
theorem Iz:ownKnob Tryz.prog.godebug=none:=by kernel_rfl
theorem nZ:laidOutB Tryz.prog=true:=by kernel_rfl
theorem Eh (os:Os)(started:os.Started)(H:Type)(enc:TypeId×Value->H):
  ReturnsInHanded {} Tryz.checked os 8 .any (fun w args=>(Rows.parseFirstSpec.pre enc Tryz.prog Tryz.f8 Rows.parseFirstRow.domain false w args/\laidMetH Tryz.prog Rows.parseFirstRow.laid w)/\sizedMet enc Tryz.prog Tryz.f8 (OpenSpec.ofChange Rows.parseFirstSpec) false w args)
   (Rows.parseFirstSpec.post enc Tryz.prog Tryz.f8 false true false false):=by
 refine returnsInHanded_of_change_and (C:=Tryz.checked) (X:=fun w _=>laidMetH Tryz.prog Rows.parseFirstRow.laid w) (fun _ _ _ hh h=>h.of_heap hh) Iz started (by kernel_rfl) Tryz.func8
  (ChangeSpec.witness_shaped (enc:=enc) (C:=Tryz.checked) (os:=os) (X:=fun w _=>laidMetH Tryz.prog Rows.parseFirstRow.laid w) false (World.laidAll Tryz.prog os Rows.parseFirstRow.laid) #[.slice none 0 0,.agg #[.int .i64 0,.int .i64 0],.string ByteArray.empty] 8 (World.laidAll_os _ _ _)
   (World.shaped_of_ZipB (by kernel_rfl) (by kernel_rfl)) (by kernel_rfl) (by kernel_rfl) (by kernel_rfl)
   (by rw[MakeChecks.laidMetH_plain _ _ _ (by kernel_rfl)];exact laidMet_laidAll _ (by kernel_rfl) (by kernel_rfl))) ?_
 intro W base args ds gs before hval0 hW hcnd _ hL _;have hval:∀(j:Nat) t v,Tryz.f8.params[j]? =some t->args[j]? =some v->Value.okWide Tryz.prog W .any base t v:=hval0;have hW':=hW;obtain⟨p,q,hA0,hV,rfl,hfz,hnd⟩:=hW;have hA:DataW.TrodAll enc Tryz.prog W 0 (fun _=>true) true Tryz.f8.params.toList args.toList ds p:=hA0;rw[Tryz.params8] at hA hval;obtain⟨v0,vs0,d0,ds0,p0,q0,hargs,rfl,rfl,h0,r0⟩:=trodAll_cons hA;obtain⟨v1,vs1,d1,ds1,p1,q1,rfl,rfl,rfl,h1,r1⟩:=trodAll_cons r0;obtain⟨v2,vs2,d2,ds2,p2,q2,rfl,rfl,rfl,h2,r2⟩:=trodAll_cons r1;obtain⟨rfl,rfl,rfl⟩:=trodAll_nil r2;obtain rfl:args= #[v0,v1,v2]:=by cases args;simp_all
 obtain⟨rfl,rfl⟩:=trodVars_none hV;have k0:=h0;have Za:∀x∈p0,x.block<W.heap.size:=by obtain⟨m,hm⟩:=k0;exact DataW.trod_lt m _ _ _ hm
 have k1:=h1;have lt1:∀x∈p1,x.block<W.heap.size:=by obtain⟨m,hm⟩:=k1;exact DataW.trod_lt m _ _ _ hm
 have k2:=h2;have lt2:∀x∈p2,x.block<W.heap.size:=by obtain⟨m,hm⟩:=k2;exact DataW.trod_lt m _ _ _ hm
 obtain⟨A0,n0,c0,zs0,rfl,hc0,hm0,hr0,hi0⟩:=Df (hval 0 22 v0 rfl rfl) h0;obtain⟨a1,b1,rfl,rfl,rfl,w1,x1⟩:=Go.WideMaps.open_pair acL Tryz.underlying3 (hval 1 63 v1 rfl rfl) h1;obtain⟨a2,rfl,rfl,rfl,w2⟩:=open_string Tryz.underlying9 (hval 2 9 v2 rfl rfl) h2;obtain⟨⟨l2⟩⟩:=a2;clear hA0 hval0;have hL':laidMetH Tryz.prog Rows.parseFirstRow.laid W:=hL;rw[MakeChecks.laidMetH_plain _ _ _ (by kernel_rfl)] at hL';obtain⟨fF,ng⟩:=zO hL' (by simp[Rows.parseFirstRow]) (by simp[Rows.parseFirstRow]) (by simp[Rows.parseFirstRow]);refine(Jw W A0 n0 c0 zs0 hc0 hr0 hi0 a1 b1 l2 fF ng).mono fun e W' ⟨he,bel⟩=> ?_
 subst he;exact⟨_,rfl,_,_,_,[],_,[],hW',trodAll_mk1 (shut_bool Tryz.underlying4 _),(trodAll_cons_mk (Below.trod nZ (by kernel_rfl) (of_decide_eq_true (by kernel_rfl)) k0 bel Za) (trodAll_cons_mk (Below.trod nZ (by kernel_rfl) (of_decide_eq_true (by kernel_rfl)) k1 bel lt1) (trodAll_cons_mk (Below.trod nZ (by kernel_rfl) (of_decide_eq_true (by kernel_rfl)) k2 bel lt2) trodAll_mk0))),rfl,bel.frame _,fun h=>by cases h⟩
end
end Go.Proofs.YtkijckccfookeaaGreatDoor
