/- Lemmas. -/
import Derived.Test.YtkijckccfookeaaGreatDoorV09
import Derived.Great.BuildSlice
import Derived.Deep.Cut
set_option linter.unusedVariables false
set_option linter.unusedSimpArgs false
set_option maxRecDepth 100000
set_option maxHeartbeats 32000000
namespace Go.Proofs.YtkijckccfookeaaGreatDoor
open Go.RowKit
theorem Un (n:Int)(k:Nat)(hk:k<4611686018427387904):∃y:Nat,bits .and .i64 n (k:Int)=y/\y<=k:=by
 have h2:(BitVec.ofInt 64 (k:Int)).toNat=k:=by rw[BitVec.ofInt_natCast,BitVec.toNat_ofNat];exact Nat.mod_eq_of_lt (by omega)
 have hle:(BitVec.ofInt 64 n &&& BitVec.ofInt 64 (k:Int)).toNat<=k:=by rw[BitVec.toNat_and,h2];exact Nat.and_le_right
 refine⟨_,?_,hle⟩;show IntKind.i64.wrap ((BitVec.ofInt 64 n &&& BitVec.ofInt 64 (k:Int)).toNat:Int)=_;generalize (BitVec.ofInt 64 n &&& BitVec.ofInt 64 (k:Int)).toNat=y at*
 simp[IntKind.wrap,IntKind.signed,IntKind.bits];omega
def xR:List B:=[[],[120],[103,97],[46,110,111,116,100,101,102],[48],[45,53],[49,50,51,52,53,54,55,56,57,48,49],[91],[93],[47],[62],[49,58,48],[48,58],[49,44,50],[49,44,50,42],[49,42,44,50],[97,44,98],[109,97,114,107],[105,103,110,111,114,101],[64,99],[112,117,115,104,58,51],[112,117,115,104,58,120],[110,111,112],[117,110,105,116],[103,108,121,112,104],[114,117,108,101],[108,111,111,107,117,112],[115,105,110,103,108,101],[99,104,97,105,110],[35,32,110,111],[99,111,110,116,111,117,114],[10]]
def DD:Array Value:=(strs xR).toArray
theorem adN (k:Nat)(h:k<32):∃s:B,DD[k]? =some (.string ⟨s.toArray⟩)/\s.length<=11:=by
 have h1:k<xR.length:=h;refine⟨xR[k],?_,?_⟩
 ·unfold DD;rw[<-Array.getElem?_toList];exact strs_get (aqn h1)
 have:∀s∈xR,s.length<=11:=by decide
 exact this _ (List.getElem_mem _)
theorem VD (a:Act)(parts:Array (Nat×Operand))(zs:List B)(hparts:parts.toList=(zs.zipIdx 0).map fun x=>(x.2,Operand.const (.string ⟨x.1.toArray⟩))):
  (parts.map fun(i,x)=>(i,a.eval x)).toList=((strs zs).zipIdx 0).map fun x=>(x.2,x.1):=by
 rw[Array.toList_map,hparts,strs,List.zipIdx_map,aq5,aq5];rfl
theorem Fb {P:Program}{ops:Array Oper}{rest:List Oper}{o:Oper}{a:Act}{w:World}{Q:Exit->Act->World->Prop}(hg:o.guard=none)(t e:TypeId)(len:Nat)(parts:Array (Nat×Operand))(ho:o.op= .buildSlice t len parts)(d:Option Tmp)(hd:o.dst=d)
  (zs:List B) (hu:P.underlying t=some (.slice e)) (hsz:(P.info? e).map (·.size)=some 1) (hz:((P.info? e).bind (·.zero)).isSome=true)
  (hlen:len=zs.length) (hpos:0<len) (hsmall:len<=2 ^ 24)
  (hparts:parts.toList=(zs.zipIdx 0).map fun x=>(x.2,Operand.const (.string ⟨x.1.toArray⟩)))
  (h:wpList P ops Q rest (a.put d (.slice (some ⟨w.heap.size,0,none⟩) len len)) (w.alloc (.cells (strs zs).toArray e))):wpList P ops Q (o::rest) a w:=by
 subst hd;cases hie:P.info? e with
 |none=>simp[hie] at hsz
 |some ie=>simp only[hie,Option.map_some,aqM,Option.bind_some] at hsz hz;obtain⟨z,hzz⟩:=Option.isSome_iff_exists.1 hz;refine wpList_buildSlice hg t e len parts ho _ ie z hu hie hzz (by rw[hsz];omega) (by rw[hsz];omega) ?_ h;rw[VD a parts zs hparts,hsz];exact Great.fill_flat _ _ (fun v hv=>by obtain⟨n,_,rfl⟩:=aqQ.1 hv;rfl) (by simp[strs,hlen])
attribute [local irreducible] DD
theorem ac5 (w:World):Calls Tryz.prog 58 #[] w fun e w'=>e= .returned (.slice (some ⟨w.heap.size,0,none⟩) 32 32)/\Bk w' w.heap.size 9 DD/\Below w.heap.size w w':=by
 go_enter Tryz.func58,Tryz.ntmps58
 go_upto_region 1 with fail
 apply wp_region_lit;refine Fb rfl 48 9 32 _ rfl (some 1) rfl xR Tryz.underlying48 (by kernel_rfl) (by kernel_rfl) (by kernel_rfl) (by omega) (by omega) (by kernel_rfl) ?_;have hk:Bk (w.alloc (.cells (strs xR).toArray 9)) w.heap.size 9 DD:=by unfold DD;exact Bk.new _ _ _
 have hb:Below w.heap.size w (w.alloc (.cells (strs xR).toArray 9)):=(aqk _ _).alloc (ag _) _;generalize w.alloc (.cells (strs xR).toArray 9)=W at*
 have HK:=hd0 hk;have HB:=hd0 hb;clear hk hb;go_wp2_with fail
 go_ret
 exact⟨rfl,HK.out,HB.out⟩
theorem L9 (w:World)(S:B)(z1 z2:Int)(hS:S.length<=100000000):Calls Tryz.prog 29 #[.string ⟨S.toArray⟩,.int .i64 z1,.int .i64 z2] w fun e w'=>(∃T:B,e= .returned (.string ⟨T.toArray⟩)/\T.length<=S.length+16)/\Below w.heap.size w w':=by
 obtain⟨y1,hy1,hl1⟩:=Un z1 1048575 (by omega);obtain⟨y2,hy2,hl2⟩:=Un z2 1023 (by omega);have ec1:((1048575:Nat):Int)=1048575:=rfl;have ec2:((1023:Nat):Int)=1023:=rfl;rw[ec1] at hy1;rw[ec2] at hy2;clear ec1 ec2;have hi1:((y2:Int)).tmod 32=((y2 % 32:Nat):Int):=by rw[Int.tmod_eq_emod_of_nonneg (by omega)];omega
 have hi2:((y2:Int)) % 32=((y2 % 32:Nat):Int):=by omega
 have hil:y2 % 32<32:=Nat.mod_lt _ (by omega);obtain⟨sw,hsw,hsl⟩:=adN (y2 % 32) hil;generalize y2 % 32=j at*
 go_enter Tryz.func29,Tryz.ntmps29
 go_wp2_with fail
 refine(ac5 w).mono ?_;rintro e w1 ⟨rfl,hk1,hb1⟩;have hcell:w1.cell? ⟨w.heap.size,j,none⟩=some (.string ⟨sw.toArray⟩):=by rw[hk1.cell j];exact hsw
 have HB1:=hd0 hb1;clear hk1 hb1 hsw;go_wp2_with fail
 go_loopw [8,9] (fun m i wr=>∃k n:Nat,k<=S.length/\n<=k/\m= .int .i64 n/\i= .int .i64 k/\w1=wr) (fun _ i _=>S.length - (intOf i).toNat)
 case atStart=>exact⟨0,0,by omega,by omega,rfl,rfl,rfl⟩
 case round=>
  obtain⟨k,n,hk,hn,rfl,rfl,rfl⟩:=hrel;by_cases hlt:k<S.length
  ·obtain⟨c,hc⟩:∃c,S[k]? =some c:=⟨_,aqn hlt⟩
   have hb:=byte_at S k c hc hlt;clear hc;by_cases h32:c.toNat=32
   ·have e1:((c.toNat:Int)==32)=true:=by rw[h32];rfl
    go_wp2_with fail
    go_roundw
    case rel=>exact⟨k+1,n+1,by omega,by omega,by simp,by simp,by trivial⟩
    case measure=>simp[intOf];omega
   by_cases h10:c.toNat=10
   ·go_wp2_with fail
    go_roundw
    case rel=>exact⟨k+1,n+1,by omega,by omega,by simp,by simp,by trivial⟩
    case measure=>simp[intOf];omega
   have e1:((c.toNat:Int)==32)=false:=by simp;omega
   have e2:((c.toNat:Int)==10)=false:=by simp;omega
   go_wp2_with fail
   go_roundw
   case rel=>exact⟨k+1,n,by omega,by omega,by simp,by simp,by trivial⟩
   case measure=>simp[intOf];omega
  obtain rfl:k=S.length:=by omega
  by_cases h0:n=0
  ·subst h0;go_wp2_with fail
   go_ret
   exact⟨⟨S,rfl,by omega⟩,HB1.out⟩
  have hn0:((n:Int)==0)=false:=by simp;omega
  have hq1:((y1:Int)).tmod n=((y1 % n:Nat):Int):=by rw[Int.tmod_eq_emod_of_nonneg (by omega)];simp
  have hq2:((y1:Int)) % (n:Int)=((y1 % n:Nat):Int):=by simp
  have xA:y1 % n<=1048575:=nt (Nat.mod_le _ _) hl1;have hnz:¬((n:Int)=0):=by omega
  generalize y1 % n=q0 at*
  go_wp2_with fail
  go_loopw [10,11,12] (fun q f i wr=>∃q' f' i':Nat,f'<=i'/\i'<=S.length/\q'<=1048575/\q= .int .i64 q'/\f= .int .i64 f'/\i= .int .i64 i'/\w1=wr) (fun _ _ i _=>S.length - (intOf i).toNat)
  case atStart=>exact⟨q0,0,0,by omega,by omega,xA,rfl,rfl,rfl,rfl⟩
  case round=>
   obtain⟨q,f,i,hfi,hi,hq,rfl,rfl,rfl,rfl⟩:=hrel;by_cases hlt:i<S.length
   ·obtain⟨c,hc⟩:∃c,S[i]? =some c:=⟨_,aqn hlt⟩
    have hb:=byte_at S i c hc hlt;clear hc;by_cases hbl:c.toNat=32\/c.toNat=10
    ·by_cases hq0:q=0
     ·subst hq0;have hx1:(ByteArray.mk S.toArray).extract 0 f=⟨(S.take f).toArray⟩:=by rw[fG,List.drop_zero]
      have hx2:(ByteArray.mk S.toArray).extract i S.length=⟨(S.drop i).toArray⟩:=by rw[fG,aqr]
      have ha1:=dN (S.take f) sw;have ha2:=dN (S.take f++sw) (S.drop i);have hT:Hid ((S.take f++sw++S.drop i).length<=S.length+16):=hd0 (by simp only[az,aqH,aq0];omega);have hl5:(S.take f).length<=S.length:=by rw[aqH];omega
      have hl6:(S.take f++sw).length<=S.length+11:=by rw[az];omega
      have hl7:(S.drop i).length<=S.length:=by rw[aq0];omega
      generalize S.take f=SA at*
      generalize S.drop i=SB at*
      generalize hS3:SA++sw=SC at*
      generalize hS4:SC++SB=SD at*
      clear hS3 hS4;rcases hbl with h32|h10
      ·have e1:((c.toNat:Int) !=32)=false:=by rw[h32];rfl
       go_wp2_with fail
       go_region
       go_wp2_with fail
       go_ret
       exact⟨⟨SD,rfl,hT.out⟩,HB1.out.drew⟩
      have e1:((c.toNat:Int) !=10)=false:=by rw[h10];rfl
      have e2:((c.toNat:Int) !=32)=true:=by rw[h10];rfl
      go_wp2_with fail
      go_region
      go_wp2_with fail
      go_ret
      exact⟨⟨SD,rfl,hT.out⟩,HB1.out.drew⟩
     have hq3:((q:Int)==0)=false:=by simp;omega
     rcases hbl with h32|h10
     ·have e1:((c.toNat:Int) !=32)=false:=by rw[h32];rfl
      go_wp2_with fail
      go_roundw
      case rel=>exact⟨q - 1,i+1,i+1,by omega,by omega,by omega,by simp;omega,by simp,by simp,by trivial⟩
      case measure=>simp[intOf];omega
     have e1:((c.toNat:Int) !=10)=false:=by rw[h10];rfl
     have e2:((c.toNat:Int) !=32)=true:=by rw[h10];rfl
     go_wp2_with fail
     go_roundw
     case rel=>exact⟨q - 1,i+1,i+1,by omega,by omega,by omega,by simp;omega,by simp,by simp,by trivial⟩
     case measure=>simp[intOf];omega
    have e1:((c.toNat:Int) !=32)=true:=by simp;omega
    have e2:((c.toNat:Int) !=10)=true:=by simp;omega
    go_wp2_with fail
    go_roundw
    case rel=>exact⟨q,f,i+1,by omega,by omega,by omega,rfl,rfl,by simp,by trivial⟩
    case measure=>simp[intOf];omega
   obtain rfl:i=S.length:=by omega
   go_wp2_with fail
   go_ret
   exact⟨⟨S,rfl,by omega⟩,HB1.out⟩
end Go.Proofs.YtkijckccfookeaaGreatDoor
