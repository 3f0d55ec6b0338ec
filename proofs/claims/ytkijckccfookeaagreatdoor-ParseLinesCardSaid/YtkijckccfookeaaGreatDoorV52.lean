/- Lemmas. -/
import Derived.Test.YtkijckccfookeaaGreatDoorV45
import Derived.Test.YtkijckccfookeaaGreatDoorPrF
import Derived.Test.YtkijckccfookeaaGreatDoorWt
import Derived.Test.YtkijckccfookeaaGreatDoorOpenA
import Derived.Test.YtkijckccfookeaaGreatDoorCards
import Derived.Test.YtkijckccfookeaaGreatDoorTie
import Derived.LaidMore
import Derived.Lay
set_option linter.unusedVariables false
set_option linter.unusedSimpArgs false
set_option maxRecDepth 100000
set_option maxHeartbeats 32000000
namespace Go.Proofs.YtkijckccfookeaaGreatDoor
section
open Go.RowKit
def Ej:B:=[32,9,35,32,103,108,121,112,104,32,110,111,110,101]
def agj (b n:Nat):Bool:=bits .and .u8 ((b:Int) / 2 ^ (n % 8)) 1==1
def mO (b n:Nat):B:=if agj b n then [32,35,91,32] else [9,32]
theorem ac6 (b n:Nat):(mO b n).length<=4:=by unfold mO;split<;>simp
theorem afz (b n:Nat):∀c∈mO b n,c≠10:=by unfold mO;split<;>decide
theorem ach (b n:Nat):∀c∈code (mO b n),blank c=true:=by unfold mO;split<;>decide
theorem KR (o:B)(k:Nat)(r:B):ahead o k []++r=ahead o k r:=by
 induction k with
 |zero=>rfl
 |succ k ih=>rw[ahead,ahead,aqy,aqC,ih]
theorem VJ (o:B)(k:Nat):ahead o (k+1) []=ahead o k []++(o++[10]):=by
 rw[KR];induction k with
 |zero=>simp[ahead]
 |succ k ih=>rw[ahead,ih,ahead]
theorem LM (o:B)(k:Nat):(ahead o k []).length=k*(o.length+1):=by
 induction k with
 |zero=>simp[ahead]
 |succ k ih=>rw[ahead,az,ay,ih,ard];omega
theorem ac0 (sfx:Nat->B)(a b:B)(n:Nat):jQ sfx n (a++b)=jQ sfx n a++jQ sfx (n+a.count 10) b:=by
 induction a generalizing n with
 |nil=>simp[jQ]
 |cons c r ih=>
  rw[aqC,jQ,jQ,ih,aqy,List.count_cons];by_cases h:c=10
  ·rw[if_pos h,if_pos h,h];simp only[beq_self_eq_true,if_true];rw[show n+1+r.count 10=n+(r.count 10+1) by omega]
  rw[if_neg h,if_neg h];have:(c==10)=false:=by simpa using h
  rw[this];simp
theorem acf (sfx:Nat->B)(s:B)(k:Nat)(c:UInt8)(h:s[k]? =some c):jQ sfx 0 (s.take (k+1))=jQ sfx 0 (s.take k)++(if c=10 then sfx ((s.take k).count 10)++[10] else if c=32 then [32,9,32] else [c]):=by rw[aq1,h,ac0];simp[jQ]
theorem aef (sfx:Nat->B)(h:∀n,(sfx n).length<=4)(s:B)(n:Nat):(jQ sfx n s).length<=5*s.length:=by
 induction s generalizing n with
 |nil=>simp[jQ]
 |cons c r ih=>
  rw[jQ,az,ay];have h1:=ih (if c=10 then n+1 else n);have h2:=h n;have h3:(if c=10 then sfx n++[10] else if c=32 then [32,9,32] else [c]).length<=5:=by
   split
   ·rw[az];simp;omega
   split<;>simp
  omega
theorem WT (s:B)(b k:Nat):dw (ahead Ej k []++jQ (mO b) 0 s)=(match dw s with| .ok f=> .ok f| .error (n,e)=> .error (n+k,e)):=by rw[KR];exact Vh Ej (by decide) (by decide) (mO b) (afz b) (ach b) k s
theorem adx (ps:List B):∀(n:Nat),∀x∈tl n ps,∃m:Nat,x.1=m/\m<n+ps.length:=by
 induction ps with
 |nil=>intro n x hx;simp[tl] at hx
 |cons p ps ih=>
  intro n x hx;rw[tl,aqp] at hx;rw[ay];rcases hx with hx|hx
  ·split at hx
   ·simp at hx
   simp only[aql] at hx;subst hx;exact⟨n,rfl,by omega⟩
  obtain⟨m,e,hm⟩:=ih _ x hx;exact⟨m,e,by omega⟩
theorem U4 {gl:Gl}{n c:Int}(L:List (Int×List B)):∀ {s:PS},stmts gl s L= .error (n,c)->∃x∈L,x.1=n:=by
 induction L with
 |nil=>intro s h;cases h
 |cons x r ih=>
  intro s h;obtain⟨m,l⟩:=x;rw[stmts] at h;split at h
  ·cases h;exact⟨_,List.mem_cons_self,rfl⟩
  obtain⟨y,hy,e⟩:=ih h;exact⟨y,by simp[hy],e⟩
theorem WC {src:B}{k:Nat}{n c:Int}(hk:src.length<=k)(h:dw src= .error (n,c)):0<=n/\n<=k+1:=by
 unfold dw at h;cases hs:stmts (bf 0 ((linesT src).map (·.2))) ps0 (linesT src) with
 |error x=>rw[hs] at h;cases h;obtain⟨x,hx,e⟩:=U4 _ hs;rw[uK] at hx;obtain⟨m,e2,hm⟩:=adx _ _ x hx;rw[Dy] at hm;have:=List.count_le_length (a:=(10:UInt8)) (l:=src);omega
 |ok s=>rw[hs] at h;cases h
theorem I4 (w:World)(A:Option Addr)(n c:Nat)(zs:List Int)(hc:n<=c)(hr:Rd w w.heap.size A n 1 (aP zs))(hz:∀z∈zs,I64 z)(q0 q1:Int)(p0 p1:Int)(hp0:(Lit.int .u8 p0).wf=true)(hp1:(Lit.int .u8 p1).wf=true)(fF:aoi w)(ng:nT<=w.heap.size):
  Calls Tryz.prog 7 #[.slice A n c,.agg #[.int .i64 q0,.int .i64 q1],.agg #[.int .u8 p0,.int .u8 p1]] w fun e w'=>e= .returned (.bool true)/\Below w.heap.size w w':=by
 obtain⟨e1,e2⟩:=bounds_u8 hp0;obtain⟨e3,e4⟩:=bounds_u8 hp1;obtain⟨a,rfl⟩:=Int.eq_ofNat_of_zero_le e1;obtain⟨b,rfl⟩:=Int.eq_ofNat_of_zero_le e3;have ha:a<256:=by omega
 have hb:b<256:=by omega
 clear hp0 hp1 e1 e2 e3 e4;have hk1:((a:Int)).tmod 16=((a % 16:Nat):Int):=by rw[Int.tmod_eq_emod_of_nonneg (by omega)];omega
 have hk2:((a:Int)) % 16=((a % 16:Nat):Int):=by omega
 have hkl:a % 16<16:=Nat.mod_lt _ (by omega);have hmk:=hd0 (fun(v:World) (hb:Below w.heap.size w v)=>EU v A n c zs hc ((hr.below hb (ag _)).mono hb.size) hz);have Cf:=hd0 fF;have hsh:=hd0 (fun(v:World) (hb:Below w.heap.size w v)=>EM v (Cf.out.below hb) (nt ng hb.size));have O9:=hd0 (fun(v:World) (hb:Below w.heap.size w v) (s:B) (hs:s.length<=100000000)=>oh v s hs (Cf.out.below hb) (nt ng hb.size));clear hr hz fF;generalize hK:a % 16=K at*
 clear hK;go_enter Tryz.func7,Tryz.ntmps7
 go_wp2_with fail
 obtain⟨W0,hW0⟩:∃x,(w.alloc (.cells #[.int .i64 q0,.int .i64 q1] 63)).alloc (.cells #[.int .u8 a,.int .u8 b] 64)=x:=⟨_,rfl⟩
 rw[hW0];have hb0:Below w.heap.size w W0:=by rw[<-hW0];exact((aqk _ _).alloc (ag _) _).alloc (by simp) _
 have hk0:Bk W0 w.heap.size 63 #[.int .i64 q0,.int .i64 q1]:=by rw[<-hW0];exact(Bk.new _ _ _).keep ((aqk _ _).alloc (ag _) _|>.block _ (by simp))
 have acx:Bk W0 (w.heap.size+1) 64 #[.int .u8 a,.int .u8 b]:=by rw[<-hW0];have:=Bk.new (w.alloc (.cells #[.int .i64 q0,.int .i64 q1] 63)) 64 #[.int .u8 a,.int .u8 b];simpa using this
 have HB0:=hd0 hb0;have QL:=hd0 hk0;have oO:=hd0 acx;have z0:=hk0.lt;have z0':=acx.lt;have hz0:=hb0.size;clear hW0 hb0 hk0 acx;refine(hsh.out W0 HB0.out).mono ?_;rintro e w1 ⟨rfl,hb1⟩;have c0:w1.cell? ⟨w.heap.size,0,none⟩=some (.int .i64 q0):=((af hb1).1 _ _ z0).trans (QL.out.cell 0);have c1:w1.cell? ⟨w.heap.size,1,none⟩=some (.int .i64 q1):=((af hb1).1 _ _ z0).trans (QL.out.cell 1);have HB1:Hid (Below w.heap.size w w1):=hd0 (HB0.out.trans (hb1.mono hz0));have HKB:Hid (Bk w1 (w.heap.size+1) 64 #[.int .u8 a,.int .u8 b]):=hd0 (oO.out.keep (hb1.block _ z0'));have z1:w.heap.size<w1.heap.size:=aqu z0 hb1.size;have z1':w.heap.size+1<w1.heap.size:=aqu z0' hb1.size;clear hb1 HB0 QL oO;go_wp2_with fail
 have zI:Hid (Below w.heap.size w w1.drew):=hd0 HB1.out.drew;have d0:w1.drew.cell? ⟨w.heap.size,0,none⟩=some (.int .i64 q0):=c0;have d1:w1.drew.cell? ⟨w.heap.size,1,none⟩=some (.int .i64 q1):=c1;have Gy:w.heap.size<w1.drew.heap.size:=z1
 go_region_held3 (fun w'=>w'.cell? ⟨w.heap.size,0,none⟩=some (.int .i64 q0)/\w'.cell? ⟨w.heap.size,1,none⟩=some (.int .i64 q1)) (first|with_reducible exact⟨c0,c1⟩|with_reducible exact⟨d0,d1⟩|with_reducible exact⟨x0,x1⟩|with_reducible exact⟨y0,y1⟩|with_reducible exact⟨u0,u1⟩) (first
  |(go_at_call 23;refine(hmk.out w1.drew zI.out).mono ?_;rintro e v1 ⟨f,fc,hm,rfl,hf,hbv⟩;have OQ:Hid (Below w.heap.size w v1):=hd0 (zI.out.trans (hbv.mono zI.out.size));have x0:v1.cell? ⟨w.heap.size,0,none⟩=some (.int .i64 q0):=((af hbv).1 _ _ Gy).trans d0;have x1:v1.cell? ⟨w.heap.size,1,none⟩=some (.int .i64 q1):=((af hbv).1 _ _ Gy).trans d1;have Gh:=aqu Gy hbv.size;have HKB1:Hid (Bk v1 (w.heap.size+1) 64 #[.int .u8 a,.int .u8 b]):=hd0 (Bk.keep (w:=w1.drew) HKB.out (hbv.block _ z1'));have HM:=hd0 hm;have HF:=hd0 hf;clear hbv hm hf)
  |(go_at_call 24;refine(QZ HM.out HF.out (aqk _ _)).mono ?_;rintro e v2 ⟨S,hS,rfl,hbv⟩;have xO:Hid (Below w.heap.size w v2):=hd0 (OQ.out.trans (hbv.mono OQ.out.size));have y0:v2.cell? ⟨w.heap.size,0,none⟩=some (.int .i64 q0):=((af hbv).1 _ _ Gh).trans x0;have y1:v2.cell? ⟨w.heap.size,1,none⟩=some (.int .i64 q1):=((af hbv).1 _ _ Gh).trans x1;have QQ:=aqu Gh hbv.size;have HKB2:Hid (Bk v2 (w.heap.size+1) 64 #[.int .u8 a,.int .u8 b]):=hd0 (HKB1.out.keep (hbv.block _ HKB1.out.lt));clear hbv HM HF)
  |(go_at_call 29;refine(L9 v2 S q0 q1 (nt hS (by decide))).mono ?_;rintro e v3 ⟨⟨T,rfl,hT⟩,hbv⟩;have Es:Hid (Below w.heap.size w v3):=hd0 (xO.out.trans (hbv.mono xO.out.size));have u0:v3.cell? ⟨w.heap.size,0,none⟩=some (.int .i64 q0):=((af hbv).1 _ _ QQ).trans y0;have u1:v3.cell? ⟨w.heap.size,1,none⟩=some (.int .i64 q1):=((af hbv).1 _ _ QQ).trans y1;have HKB3:Hid (Bk v3 (w.heap.size+1) 64 #[.int .u8 a,.int .u8 b]):=hd0 (HKB2.out.keep (hbv.block _ HKB2.out.lt));clear hbv))
 clear x0 x1 y0 y1 u0 u1 c0 c1 d0 d1 OQ xO Gh QQ hmk hsh HB1 zI Gy HKB HKB1 HKB2;have hTl:T.length<=160016:=by omega
 have hls:=hd0 (WT T b K);have c2:v3.cell? ⟨w.heap.size+1,0,none⟩=some (.int .u8 a):=HKB3.out.cell 0;have c3:v3.cell? ⟨w.heap.size+1,1,none⟩=some (.int .u8 b):=HKB3.out.cell 1;have yQ:=HKB3.out.lt;go_wp2_with fail
 go_loopw [9,10] (fun m i wr=>∃k:Nat,k<=K/\m= .string ⟨(ahead Ej k []).toArray⟩/\i= .int .i64 k/\v3=wr) (fun _ i _=>K - (intOf i).toNat)
 case atStart=>exact⟨0,by omega,rfl,rfl,rfl⟩
 case round=>
  obtain⟨k,hk,rfl,rfl,rfl⟩:=hrel;by_cases hlt:k<K
  ·have hsn:Hid (ahead Ej (k+1) []=ahead Ej k []++[32,9,35,32,103,108,121,112,104,32,110,111,110,101,10]):=hd0 (VJ Ej k);have hl1:(ahead Ej k []).length<=240:=by rw[LM];show k*15<=240;omega
   generalize ahead Ej k []=M at*
   have ha1:(ByteArray.mk M.toArray)++⟨#[32,9,35,32,103,108,121,112,104,32,110,111,110,101,10]⟩=⟨(M++[32,9,35,32,103,108,121,112,104,32,110,111,110,101,10]).toArray⟩:=dN M [32,9,35,32,103,108,121,112,104,32,110,111,110,101,10];go_wp2_with fail
   go_roundw
   case rel=>exact⟨k+1,by omega,by rw[hsn.out],by simp,by trivial⟩
   case measure=>simp[intOf];omega
  obtain rfl:k=K:=by omega
  have hl0:(ahead Ej k []).length<=240:=by rw[LM];show k*15<=240;omega
  generalize ahead Ej k []=M0 at*
  go_wp2_with fail
  go_loopw [9,11,12] (fun m l i wr=>∃j:Nat,j<=T.length/\m= .string ⟨(M0++jQ (mO b) 0 (T.take j)).toArray⟩/\l= .int .i64 ((T.take j).count 10:Nat)/\i= .int .i64 j/\v3=wr) (fun _ _ i _=>T.length - (intOf i).toNat)
  case atStart=>exact⟨0,by omega,by simp[jQ],by simp,rfl,rfl⟩
  case round=>
   obtain⟨j,hj,rfl,rfl,rfl,rfl⟩:=hrel;have hll:(M0++jQ (mO b) 0 (T.take j)).length<=810000:=by have:=aef (mO b) (ac6 b) (T.take j) 0;rw[aqH] at this;rw[az];omega
   by_cases hlt2:j<T.length
   ·obtain⟨c,hc⟩:∃c,T[j]? =some c:=⟨_,aqn hlt2⟩
    have hby:=byte_at T j c hc hlt2;have hx:(ByteArray.mk T.toArray).extract j (j+1)=⟨[c].toArray⟩:=by rw[fG,aq1,hc,List.drop_append,aqH,Nat.min_eq_left (by omega),aqU (by rw[aqH];omega)];simp
    have hct:=hd0 (PY T j c hc);have hcl:(T.take j).count 10<=160016:=nt List.count_le_length (by rw[aqH];omega);have het:M0++jQ (mO b) 0 (T.take (j+1))=M0++jQ (mO b) 0 (T.take j)++(if c=10 then mO b ((T.take j).count 10)++[10] else if c=32 then [32,9,32] else [c]):=by rw[acf (mO b) T j c hc,aqy]
    have Gp:=hd0 het;clear hc het;generalize (T.take j).count 10=q at*
    generalize M0++jQ (mO b) 0 (T.take j)=M at*
    have ht1:((q:Int)).tmod 8=((q % 8:Nat):Int):=by rw[Int.tmod_eq_emod_of_nonneg (by omega)];omega
    have ht2:((q:Int)) % 8=((q % 8:Nat):Int):=by omega
    have htl:q % 8<8:=Nat.mod_lt _ (by omega);by_cases h10:c=10
    ·rw[if_pos h10] at hct Gp;have e1:((c.toNat:Int)==10)=true:=by rw[h10];rfl
     obtain⟨bv,hbv⟩:∃bv,(bits .and .u8 ((b:Int) / 2 ^ (q % 8)) 1==1)=bv:=⟨_,rfl⟩
     have hsf:Hid (mO b q=if bv then [32,35,91,32] else [9,32]):=hd0 (by unfold mO agj;rw[hbv]);generalize q % 8=q8 at*
     cases bv
     ·have ha1:(ByteArray.mk M.toArray)++⟨#[9,32,10]⟩=⟨(M++[9,32,10]).toArray⟩:=dN M [9,32,10];go_wp2_with fail
      go_roundw
      case rel=>exact⟨j+1,by omega,by rw[Gp.out,hsf.out];rfl,by rw[hct.out];simp,by simp,by trivial⟩
      case measure=>simp[intOf];omega
     have ha1:(ByteArray.mk M.toArray)++⟨#[32,35,91,32,10]⟩=⟨(M++[32,35,91,32,10]).toArray⟩:=dN M [32,35,91,32,10];go_wp2_with fail
     go_roundw
     case rel=>exact⟨j+1,by omega,by rw[Gp.out,hsf.out];rfl,by rw[hct.out];simp,by simp,by trivial⟩
     case measure=>simp[intOf];omega
    rw[if_neg h10] at hct Gp;have e1:((c.toNat:Int)==10)=false:=by
     have:c.toNat≠10:=fun h=>h10 (UInt8.toNat_inj.1 h)
     simp;omega
    by_cases h32:c=32
    ·rw[if_pos h32] at Gp;have e2:((c.toNat:Int)==32)=true:=by rw[h32];rfl
     have ha1:(ByteArray.mk M.toArray)++⟨#[32,9]⟩=⟨(M++[32,9]).toArray⟩:=dN M [32,9];have hl2:(M++[32,9]).length<=810002:=by rw[az];simp;omega
     have he3:M++[32,9]++[c]=M++[32,9,32]:=by rw[h32];simp
     rw[<-he3] at Gp;clear he3 h32;generalize M++[32,9]=M2 at*
     have ha2:(ByteArray.mk M2.toArray)++⟨[c].toArray⟩=⟨(M2++[c]).toArray⟩:=dN M2 [c];go_wp2_with fail
     go_roundw
     case rel=>exact⟨j+1,by omega,by rw[Gp.out],by rw[hct.out];simp,by simp,by trivial⟩
     case measure=>simp[intOf];omega
    rw[if_neg h32] at Gp;have e2:((c.toNat:Int)==32)=false:=by
     have:c.toNat≠32:=fun h=>h32 (UInt8.toNat_inj.1 h)
     simp;omega
    have ha2:(ByteArray.mk M.toArray)++⟨[c].toArray⟩=⟨(M++[c]).toArray⟩:=dN M [c];go_wp2_with fail
    go_roundw
    case rel=>exact⟨j+1,by omega,by rw[Gp.out],by rw[hct.out];simp,by simp,by trivial⟩
    case measure=>simp[intOf];omega
   obtain rfl:j=T.length:=by omega
   rw[aqr] at hll;rw[aqr];generalize M0++jQ (mO b) 0 T=M at*
   generalize T.count 10=q at*
   have hpm:=hd0 (fun v hv=>O9.out v hv M (by omega));rw[hls.out] at hpm;clear hls;go_wp2_with fail
   refine(O9.out v3 Es.out T (by omega)).mono ?_;rintro e w4 Eu;cases hp:dw T with
   |error x=>
    obtain⟨nx,cx⟩:=x;rw[hp] at Eu hpm;obtain⟨hb4,rfl⟩:Below v3.heap.size v3 w4/\e= .returned (.tuple #[.agg jm,.int .i64 nx,.int .i64 cx]):=Eu;have hz:cx≠0:=QS hp;have hz1:(cx==0)=false:=by simpa using hz
    have HB4:Hid (Below w.heap.size w w4):=hd0 (Es.out.trans (hb4.mono Es.out.size));have HKB4:Hid (Bk w4 (w.heap.size+1) 64 #[.int .u8 a,.int .u8 b]):=hd0 (HKB3.out.keep (hb4.block _ yQ));have z4:=HB4.out.size;obtain⟨hn0,hn1⟩:=WC (k:=160016) hTl hp;clear hb4 hp O9 HKB3 c2 c3;go_wp2_with fail
    have qK:=hd0 (HB4.out.alloc z4 (.cells jm 32));have aan:Hid (Bk (w4.alloc (.cells jm 32)) (w.heap.size+1) 64 #[.int .u8 a,.int .u8 b]):=hd0 (HKB4.out.keep (((aqk w4.heap.size w4).alloc (ag _) _).block _ HKB4.out.lt));change Calls _ _ _ (w4.alloc (.cells jm 32)) _;generalize w4.alloc (.cells jm 32)=W5 at*
    have z5:=qK.out.size;have zb5:=aan.out.lt;clear HKB4;refine(hpm.out W5 qK.out).mono ?_;rintro e w6 AQ;obtain⟨hb6,rfl⟩:Below W5.heap.size W5 w6/\e= .returned (.tuple #[.agg jm,.int .i64 (nx+k),.int .i64 cx]):=AQ;have LZ:Hid (Below w.heap.size w w6):=hd0 (qK.out.trans (hb6.mono z5));have z6:=LZ.out.size;have abR:Hid (Bk w6 (w.heap.size+1) 64 #[.int .u8 a,.int .u8 b]):=hd0 (aan.out.keep (hb6.block _ zb5));have zb6:=abR.out.lt;have c2:w6.cell? ⟨w.heap.size+1,0,none⟩=some (.int .u8 a):=abR.out.cell 0;clear hb6 aan abR hpm;go_wp2_with fail
    go_ret
    exact⟨rfl,LZ.out.alloc z6 _⟩
   |ok f=>
    rw[hp] at Eu hpm;obtain⟨hb4,fc,rfl,hf⟩:=Eu;have HF:=hd0 hf;have Py:=hd0 (RU (by omega) hp hf);have HB4:Hid (Below w.heap.size w w4):=hd0 (Es.out.trans (hb4.mono Es.out.size));have z4:=HB4.out.size;obtain⟨A1,k1,A2,k2,A3,k3,A4,k4,A5,k5,A6,k6,A7,k7,A8,k8,rfl,-⟩:=hf;clear hb4 hp O9 HKB3 c2 c3;go_wp2_with fail
    obtain⟨W5,lI⟩:∃W5,w4.alloc (.cells #[.int .i64 f.unit,.slice A1 f.anL.length k1,.slice A2 f.chars.length k2,.slice A3 f.anM.length k3,.slice A4 f.features.length k4,.slice A5 f.anR.length k5,.slice A6 f.regions.length k6,.slice A7 f.funcs.length k7,.slice A8 f.cvt.length k8] 32)=W5:=⟨_,rfl⟩
    have aaP:Below w4.heap.size w4 W5:=by rw[<-lI];exact(aqk _ _).alloc (ag _) _
    have hk5:Bk W5 w4.heap.size 32 #[.int .i64 f.unit,.slice A1 f.anL.length k1,.slice A2 f.chars.length k2,.slice A3 f.anM.length k3,.slice A4 f.features.length k4,.slice A5 f.anR.length k5,.slice A6 f.regions.length k6,.slice A7 f.funcs.length k7,.slice A8 f.cvt.length k8]:=by rw[<-lI];exact Bk.new _ _ _
    have CQ:=hd0 hk5;have ae9:=hd0 aaP;have zf:=hk5.lt;have qK:Hid (Below w.heap.size w W5):=hd0 (HB4.out.trans (aaP.mono z4));rw[lI];clear lI aaP hk5;refine(hpm.out W5 qK.out).mono ?_;rintro e w6 AQ;obtain⟨hb6,gc,rfl,hg⟩:Below W5.heap.size W5 w6/\∃fc:List Value,e= .returned (.tuple #[.agg fc.toArray,.int .i64 0,.int .i64 0])/\an4 w6 (Dt w6) fc f:=AQ;have HG:=hd0 hg;obtain⟨B1,d1,B2,d2,B3,d3,B4,d4,B5,d5,B6,d6,B7,d7,B8,d8,rfl,-⟩:=hg;obtain⟨W6,hW6⟩:∃W6,w6.alloc (.cells #[.int .i64 f.unit,.slice B1 f.anL.length d1,.slice B2 f.chars.length d2,.slice B3 f.anM.length d3,.slice B4 f.features.length d4,.slice B5 f.anR.length d5,.slice B6 f.regions.length d6,.slice B7 f.funcs.length d7,.slice B8 f.cvt.length d8] 32)=W6:=⟨_,rfl⟩
    have aaI:Below w6.heap.size w6 W6:=by rw[<-hW6];exact(aqk _ _).alloc (ag _) _
    have hk6:Bk W6 w6.heap.size 32 #[.int .i64 f.unit,.slice B1 f.anL.length d1,.slice B2 f.chars.length d2,.slice B3 f.anM.length d3,.slice B4 f.features.length d4,.slice B5 f.anR.length d5,.slice B6 f.regions.length d6,.slice B7 f.funcs.length d7,.slice B8 f.cvt.length d8]:=by rw[<-hW6];exact Bk.new _ _ _
    have Wi:Below W5.heap.size W5 W6:=hb6.trans (aaI.mono hb6.size);have zH:=hd0 Wi;have Gw:=hd0 hk6;have zg:=hk6.lt;have HB7:Hid (Below w.heap.size w W6):=hd0 (qK.out.trans (Wi.mono qK.out.size));have hsm:=Us W6 f f _ _ (HF.out.dl (ae9.out.trans (Wi.mono ae9.out.size))) (HG.out.dl aaI) Py.out Py.out;simp only[beq_self_eq_true] at hsm;have HSM:=hd0 hsm;clear hsm hb6 aaI Wi hk6 hpm;have x0:W6.cell? ⟨w4.heap.size,0,none⟩=some (.int .i64 f.unit):=((af zH.out).1 _ _ zf).trans (CQ.out.cell 0);have x1:W6.cell? ⟨w4.heap.size,1,none⟩=some (.slice A1 f.anL.length k1):=((af zH.out).1 _ _ zf).trans (CQ.out.cell 1);have x2:W6.cell? ⟨w4.heap.size,2,none⟩=some (.slice A2 f.chars.length k2):=((af zH.out).1 _ _ zf).trans (CQ.out.cell 2);have x3:W6.cell? ⟨w4.heap.size,3,none⟩=some (.slice A3 f.anM.length k3):=((af zH.out).1 _ _ zf).trans (CQ.out.cell 3);have x4:W6.cell? ⟨w4.heap.size,4,none⟩=some (.slice A4 f.features.length k4):=((af zH.out).1 _ _ zf).trans (CQ.out.cell 4);have x5:W6.cell? ⟨w4.heap.size,5,none⟩=some (.slice A5 f.anR.length k5):=((af zH.out).1 _ _ zf).trans (CQ.out.cell 5);have x6:W6.cell? ⟨w4.heap.size,6,none⟩=some (.slice A6 f.regions.length k6):=((af zH.out).1 _ _ zf).trans (CQ.out.cell 6);have x7:W6.cell? ⟨w4.heap.size,7,none⟩=some (.slice A7 f.funcs.length k7):=((af zH.out).1 _ _ zf).trans (CQ.out.cell 7);have x8:W6.cell? ⟨w4.heap.size,8,none⟩=some (.slice A8 f.cvt.length k8):=((af zH.out).1 _ _ zf).trans (CQ.out.cell 8);have y0:W6.cell? ⟨w6.heap.size,0,none⟩=some (.int .i64 f.unit):=Gw.out.cell 0;have y1:W6.cell? ⟨w6.heap.size,1,none⟩=some (.slice B1 f.anL.length d1):=Gw.out.cell 1;have y2:W6.cell? ⟨w6.heap.size,2,none⟩=some (.slice B2 f.chars.length d2):=Gw.out.cell 2;have y3:W6.cell? ⟨w6.heap.size,3,none⟩=some (.slice B3 f.anM.length d3):=Gw.out.cell 3;have y4:W6.cell? ⟨w6.heap.size,4,none⟩=some (.slice B4 f.features.length d4):=Gw.out.cell 4;have y5:W6.cell? ⟨w6.heap.size,5,none⟩=some (.slice B5 f.anR.length d5):=Gw.out.cell 5;have y6:W6.cell? ⟨w6.heap.size,6,none⟩=some (.slice B6 f.regions.length d6):=Gw.out.cell 6;have y7:W6.cell? ⟨w6.heap.size,7,none⟩=some (.slice B7 f.funcs.length d7):=Gw.out.cell 7;have y8:W6.cell? ⟨w6.heap.size,8,none⟩=some (.slice B8 f.cvt.length d8):=Gw.out.cell 8;go_wp2_with fail
    clear hW6;refine HSM.out.mono ?_;rintro e w7 ⟨rfl,hb7⟩;go_wp2_with fail
    go_ret
    exact⟨rfl,HB7.out.trans (hb7.mono HB7.out.size)⟩
end
section
open Go.ChangeShapes Go.WideShapes Go.ChangeAt Go.RowKit
open Go.ChangeMaps (open_string shut_string)
set_option linter.unusedVariables false
theorem Jm:ownKnob Tryz.prog.godebug=none:=by kernel_rfl
theorem oz:laidOutB Tryz.prog=true:=by kernel_rfl
theorem Ed (os:Os)(started:os.Started)(H:Type)(enc:TypeId×Value->H):
  ReturnsInHanded {} Tryz.checked os 7 .any (fun w args=>(Rows.parseLinesSpec.pre enc Tryz.prog Tryz.f7 Rows.parseLinesRow.domain false w args/\laidMetH Tryz.prog Rows.parseLinesRow.laid w)/\sizedMet enc Tryz.prog Tryz.f7 (OpenSpec.ofChange Rows.parseLinesSpec) false w args)
   (Rows.parseLinesSpec.post enc Tryz.prog Tryz.f7 false true false false):=by
 refine returnsInHanded_of_change_and (C:=Tryz.checked) (X:=fun w _=>laidMetH Tryz.prog Rows.parseLinesRow.laid w) (fun _ _ _ hh h=>h.of_heap hh) Jm started (by kernel_rfl) Tryz.func7
  (ChangeSpec.witness_shaped (enc:=enc) (C:=Tryz.checked) (os:=os) (X:=fun w _=>laidMetH Tryz.prog Rows.parseLinesRow.laid w) false (World.laidAll Tryz.prog os Rows.parseLinesRow.laid) #[.slice none 0 0,.agg #[.int .i64 0,.int .i64 0],.agg #[.int .u8 0,.int .u8 0]] 8 (World.laidAll_os _ _ _)
   (World.shaped_of_ZipB (by kernel_rfl) (by kernel_rfl)) (by kernel_rfl) (by kernel_rfl) (by kernel_rfl)
   (by rw[MakeChecks.laidMetH_plain _ _ _ (by kernel_rfl)];exact laidMet_laidAll _ (by kernel_rfl) (by kernel_rfl))) ?_
 intro W base args ds gs before hval0 hW hcnd _ hL _;have hval:∀(j:Nat) t v,Tryz.f7.params[j]? =some t->args[j]? =some v->Value.okWide Tryz.prog W .any base t v:=hval0;have hW':=hW;obtain⟨p,q,hA0,hV,rfl,hfz,hnd⟩:=hW;have hA:DataW.TrodAll enc Tryz.prog W 0 (fun _=>true) true Tryz.f7.params.toList args.toList ds p:=hA0;rw[Tryz.params7] at hA hval;obtain⟨v0,vs0,d0,ds0,p0,q0,hargs,rfl,rfl,h0,r0⟩:=trodAll_cons hA;obtain⟨v1,vs1,d1,ds1,p1,q1,rfl,rfl,rfl,h1,r1⟩:=trodAll_cons r0;obtain⟨v2,vs2,d2,ds2,p2,q2,rfl,rfl,rfl,h2,r2⟩:=trodAll_cons r1;obtain⟨rfl,rfl,rfl⟩:=trodAll_nil r2;obtain rfl:args= #[v0,v1,v2]:=by cases args;simp_all
 obtain⟨rfl,rfl⟩:=trodVars_none hV;have k0:=h0;have Za:∀x∈p0,x.block<W.heap.size:=by obtain⟨m,hm⟩:=k0;exact DataW.trod_lt m _ _ _ hm
 have k1:=h1;have lt1:∀x∈p1,x.block<W.heap.size:=by obtain⟨m,hm⟩:=k1;exact DataW.trod_lt m _ _ _ hm
 have k2:=h2;have lt2:∀x∈p2,x.block<W.heap.size:=by obtain⟨m,hm⟩:=k2;exact DataW.trod_lt m _ _ _ hm
 obtain⟨A0,n0,c0,zs0,rfl,hc0,hm0,hr0,hi0⟩:=Df (hval 0 22 v0 rfl rfl) h0;obtain⟨a1,b1,rfl,rfl,rfl,w1,x1⟩:=Go.WideMaps.open_pair acL Tryz.underlying3 (hval 1 63 v1 rfl rfl) h1;obtain⟨a2,b2,rfl,rfl,rfl,w2,x2⟩:=Go.WideMaps.open_pair aho Tryz.underlying5 (hval 2 64 v2 rfl rfl) h2;clear hA0 hval0;have hL':laidMetH Tryz.prog Rows.parseLinesRow.laid W:=hL;rw[MakeChecks.laidMetH_plain _ _ _ (by kernel_rfl)] at hL';obtain⟨fF,ng⟩:=zO hL' (by simp[Rows.parseLinesRow]) (by simp[Rows.parseLinesRow]) (by simp[Rows.parseLinesRow]);refine(I4 W A0 n0 c0 zs0 hc0 hr0 hi0 a1 b1 a2 b2 w2 x2 fF ng).mono fun e W' ⟨he,bel⟩=> ?_
 subst he;exact⟨_,rfl,_,_,_,[],_,[],hW',trodAll_mk1 (shut_bool Tryz.underlying4 _),(trodAll_cons_mk (Below.trod oz (by kernel_rfl) (of_decide_eq_true (by kernel_rfl)) k0 bel Za) (trodAll_cons_mk (Below.trod oz (by kernel_rfl) (of_decide_eq_true (by kernel_rfl)) k1 bel lt1) (trodAll_cons_mk (Below.trod oz (by kernel_rfl) (of_decide_eq_true (by kernel_rfl)) k2 bel lt2) trodAll_mk0))),rfl,bel.frame _,fun h=>by cases h⟩
end
end Go.Proofs.YtkijckccfookeaaGreatDoor
