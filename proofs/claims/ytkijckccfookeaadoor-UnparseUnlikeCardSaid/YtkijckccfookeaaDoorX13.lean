/- fleuronref07: digits, yes. -/
import Derived.Test.YtkijckccfookeaaDoorCap
import Derived.Deep.Cut
set_option linter.unusedVariables false
set_option linter.unusedSimpArgs false
set_option maxRecDepth 100000
set_option maxHeartbeats 32000000
namespace Go.Proofs.YtkijckccfookeaaDoor
open Go.RowKit
theorem U4 (u:Nat)(h:u<=9223372036854775808):(jh u).length<=19:=RF 18 u (by show u<10000000000000000000;omega)
theorem OG (q:Nat):(q:Int).tmod 10=((q % 10:Nat):Int):=by rw[Int.tmod_eq_emod_of_nonneg (by omega)];omega
theorem YG (q:Nat):(-(q:Int)).tmod 10= -((q % 10:Nat):Int):=by rw[Int.neg_tmod,OG]
theorem O7 (q:Nat):(q:Int).tdiv 10=((q / 10:Nat):Int):=by rw[Int.tdiv_eq_ediv_of_nonneg (by omega)];omega
theorem Y1 (q:Nat):(-(q:Int)).tdiv 10= -((q / 10:Nat):Int):=by rw[Int.neg_tdiv,O7]
def sLen (v:Value):Nat:=match v with| .string b=>b.data.size|_=>0
theorem Di {U q:Nat}{out:B}(h:(out=[]/\q=U)\/(out≠[]/\jh U=mP q++out))(hq:out=[]\/0<q):kY q::out≠[]/\jh U=mP (q / 10)++(kY q::out):=by
 refine⟨by simp,?_⟩;rcases h with⟨rfl,rfl⟩|⟨h1,h2⟩
 ·exact Lj q
 have h0:0<q:=by
  rcases hq with hq|hq
  ·exact absurd hq h1
  exact hq
 rw[h2,RZ q h0];simp
theorem JI {U:Nat}{out:B}(h:(out=[]/\0=U)\/(out≠[]/\jh U=mP 0++out))(hn:out≠[]):jh U=out:=by
 rcases h with⟨rfl,_⟩|⟨_,h2⟩
 ·exact absurd rfl hn
 rw[h2,mP,if_pos rfl,ahd]
theorem ED {U q:Nat}{out:B}(h:(out=[]/\q=U)\/(out≠[]/\jh U=mP q++out))(hU:U<=9223372036854775808):out.length<=19:=by
 rcases h with⟨rfl,_⟩|⟨_,h2⟩
 ·simp
 have h1:=congrArg List.length h2;have h3:=U4 U hU;rw[la] at h1;omega
theorem MK (w:World)(U:Nat)(hU:U<=9223372036854775807):Calls Tryd.prog 50 #[.int .i64 U] w fun e w'=>e= .returned (.string ⟨(jh U++[32]).toArray⟩)/\Below w.heap.size w w':=by
 have hn0:decide ((U:Int)<0)=false:=by simp
 have HU:Hid (U<=9223372036854775807):=hd0 hU;go_enter Tryd.func50,Tryd.ntmps50
 go_wp2;go_loopw [3,4] (fun s k wr=>∃(q:Nat) (out:B),k= .int .i64 q/\s= .string ⟨out.toArray⟩/\Hid ((out=[]/\q=U)\/(out≠[]/\jh U=mP q++out))/\q<=9223372036854775807/\Below w.heap.size w wr) (fun s k _=>(intOf k).natAbs+(1 - sLen s))
 case atStart=>exact⟨U,[],rfl,rfl,hd0 (.inl ⟨rfl,rfl⟩),HU.out,agE _ _⟩
 case round=>
  obtain⟨q,out,rfl,rfl,hdec,hq,hbl⟩:=hrel;have hol:=ED hdec.out (by omega);have ht:=OG q;have htd:=O7 q;by_cases h0:q=0
  ·subst h0;by_cases hn:out=[]
   ·subst hn;have hd2:=hd0 (Di hdec.out (.inl rfl));have cv:=fun w=>Fg w 48 0 (by simp)
    have hap:(ByteArray.mk #[kY 0])++⟨#[]⟩=⟨#[kY 0]⟩:=oQ [kY 0] [];go_wp2;go_roundw
    case rel=>exact⟨0,[kY 0],by simp,rfl,hd0 (.inr hd2.out),by omega,hbl.alloc hbl.size _⟩
    case measure=>simp[intOf,sLen]
   have hz:=hd0 (JI hdec.out hn);have hap:(ByteArray.mk out.toArray)++⟨#[32]⟩=⟨(out++[32]).toArray⟩:=oQ out [32];have e0:(out==[])=false:=by simpa using hn
   clear hn;go_wp2;go_ret
   exact⟨by rw[hz.out];first|rfl|simp,hbl⟩
  have hd2:=hd0 (Di hdec.out (.inr (by omega)));have cv:=fun w=>Fg w (48+(q:Int) % 10) q rfl
  have hap:(ByteArray.mk #[kY q])++⟨out.toArray⟩=⟨(kY q::out).toArray⟩:=oQ [kY q] out;have hk:((q:Int) !=0)=true:=by simp;omega
  go_wp2;go_roundw
  case rel=>exact⟨q / 10,kY q::out,by simp,rfl,hd0 (.inr hd2.out),by omega,hbl.alloc hbl.size _⟩
  case measure=>simp[intOf,sLen];omega
theorem VK (q:Nat):(-(q:Int)).tmod 10= -((q:Int) % 10):=by rw[YG];omega
theorem VF (q:Nat):(-(q:Int)).tdiv 10= -((q:Int) / 10):=by rw[Y1];omega
theorem MX (w:World)(U:Nat)(h1:1<=U)(hU:U<=9223372036854775808):Calls Tryd.prog 50 #[.int .i64 (-(U:Int))] w fun e w'=>e= .returned (.string ⟨(45::(jh U++[32])).toArray⟩)/\Below w.heap.size w w':=by
 have hn0:decide (0<U)=true:=by simp;omega
 have HU:Hid (U<=9223372036854775808):=hd0 hU;have H1:Hid (1<=U):=hd0 h1;go_enter Tryd.func50,Tryd.ntmps50
 go_wp2;go_loopw [3,4] (fun s k wr=>∃(q:Nat) (out:B),k= .int .i64 (-(q:Int))/\s= .string ⟨out.toArray⟩/\Hid ((out=[]/\q=U)\/(out≠[]/\jh U=mP q++out))/\q<=9223372036854775808/\Below w.heap.size w wr) (fun s k _=>(intOf k).natAbs)
 case atStart=>exact⟨U,[],rfl,rfl,hd0 (.inl ⟨rfl,rfl⟩),HU.out,agE _ _⟩
 case round=>
  obtain⟨q,out,rfl,rfl,hdec,hq,hbl⟩:=hrel;have hol:=ED hdec.out HU.out;have ht:=VK q;have htd:=VF q;by_cases h0:q=0
  ·subst h0
   have hn:out≠[]:=by
    rintro rfl;rcases hdec.out with⟨_,h⟩|⟨h,_⟩
    ·have:=H1.out;omega
    exact h rfl
   have hz:=hd0 (JI hdec.out hn);have abK:(ByteArray.mk #[45])++⟨out.toArray⟩=⟨(45::out).toArray⟩:=oQ [45] out;have hl1:(45::out).length<=20:=by rw[aV];omega
   obtain⟨o2,ho2⟩:∃x,(45::out:B)=x:=⟨_,rfl⟩
   rw[ho2] at abK hl1;have hap:(ByteArray.mk o2.toArray)++⟨#[32]⟩=⟨(o2++[32]).toArray⟩:=oQ o2 [32];have e0:(out==[])=false:=by simpa using hn
   have HO:=hd0 ho2;clear hn ht htd ho2;go_wp2;go_ret
   exact⟨by rw[hz.out,<-HO.out];first|rfl|simp,hbl⟩
  have hd2:=hd0 (Di hdec.out (.inr (by omega)));have cv:=fun w=>Fg w (48+(q:Int) % 10) q rfl
  have hap:(ByteArray.mk #[kY q])++⟨out.toArray⟩=⟨(kY q::out).toArray⟩:=oQ [kY q] out;have hk:((-(q:Int)) !=0)=true:=by simp;omega
  have hk2:((q:Int) !=0)=true:=by simp;omega
  by_cases hm:(q:Int) % 10=0
  ·have e1:decide ((q:Int) % 10=0)=true:=by simpa using hm
   have e2:decide (0<(q:Int) % 10)=false:=by simp;omega
   have cv0:=fun w=>Fg w 48 q (by omega)
   rw[hm] at ht;clear hm cv e1 e2;go_wp2;go_roundw
   case rel=>exact⟨q / 10,kY q::out,by simp,rfl,hd0 (.inr hd2.out),by omega,hbl.alloc hbl.size _⟩
   case measure=>simp[intOf];omega
  have e2:decide (0<(q:Int) % 10)=true:=by simp;omega
  have b1:0<=(q:Int) % 10/\(q:Int) % 10<10:=by omega
  obtain⟨b1,b2⟩:=b1;clear hm;go_wp2;go_roundw
  case rel=>exact⟨q / 10,kY q::out,by simp,rfl,hd0 (.inr hd2.out),by omega,hbl.alloc hbl.size _⟩
  case measure=>simp[intOf];omega
theorem aA (w:World)(n:Int)(h:I64 n):Calls Tryd.prog 50 #[.int .i64 n] w fun e w'=>e= .returned (.string ⟨(ah n).toArray⟩)/\Below w.heap.size w w':=by
 unfold I64 at h;by_cases h0:n<0
 ·have e1:n= -((n.natAbs:Nat):Int):=by omega
  have e2:ah n=45::(jh n.natAbs++[32]):=by rw[ah,af,Lib.itoa,if_pos h0,Hu];rfl
  rw[e2]
  conv=>arg 3;rw[e1]
  exact MX w n.natAbs (by omega) (by omega)
 have e1:n=((n.toNat:Nat):Int):=by omega
 have e2:ah n=jh n.toNat++[32]:=by rw[ah,af,Lib.itoa,if_neg h0,Hu]
 rw[e2]
 conv=>arg 3;rw[e1]
 exact MK w n.toNat (by omega)
theorem IJ (w:World)(b:Bool):Calls Tryd.prog 73 #[.bool b] w fun e w'=>e= .returned (.string ⟨(oN b).toArray⟩)/\Below w.heap.size w w':=by
 cases b
 ·go_enter Tryd.func73,Tryd.ntmps73
  go_wp2;go_ret
  exact⟨rfl,agE _ _⟩
 go_enter Tryd.func73,Tryd.ntmps73
 go_wp2;go_ret
 exact⟨rfl,agE _ _⟩
def Lw (w:World):Bs:=fun b=>b<w.heap.size
theorem Sl.lw {α:Type}{R:Rel α}(ok:R.Ok){size:Nat}{w w':World}{A:Option Addr}{xs:List α}(h:Sl R size w (Lw w) A xs)(hb:Below w.heap.size w w'):Sl R size w' (Lw w') A xs:=(h.keep ok (fun b hb'=>hb.block b hb')).mono ok (fun b (hb':b<_)=>agN hb' hb.size)
theorem dB {α:Type}{f:α->B}{l:List α}{k:Nat}{x:α}(h:l[k]? =some x):(l.take (k+1)).flatMap f=(l.take k).flatMap f++f x:=by rw[ahg,h,aha];simp
theorem Ff {α:Type}(f:α->B)(l:List α)(k:Nat):((l.take k).flatMap f).length<=(l.flatMap f).length:=by
 conv=>rhs;rw[<-ag9 k l]
 rw[aha,la];omega
theorem eX {α:Type}{f:α->B}{l:List α}{k:Nat}{x:α}(h:l[k]? =some x):((l.take k).flatMap f).length+(f x).length<=(l.flatMap f).length:=by have:=Ff f l (k+1);rw[dB h,la] at this;omega
theorem bf (a b:B)(h:a.length+b.length<=100000000000000)(w':World):(Op.stringOp .add ⟨a.toArray⟩ ⟨b.toArray⟩).run Tryd.prog w'= .ok (.string ⟨(a++b).toArray⟩) w':=by rw[run_string_add_sum w' _ _ (by simp[ByteArray.size];omega),ByteArray.mk_append_mk]
theorem dL (n:Int):1<=(ah n).length:=by unfold ah;simp
theorem FV (l:List Int):1<=(rowB l).length:=by have:=dL l.length;unfold rowB;rw[la];omega
theorem G5 (i:Ins):1<=(lF i).length:=by have:=dL i.op;unfold lF;rw[la];omega
theorem EL (l:List Ins):1<=(dO l).length:=by have:=dL l.length;unfold dO;rw[la];omega
theorem dM {α:Type}(f:α->B)(h:∀x,1<=(f x).length)(l:List α):l.length<=(l.flatMap f).length:=by
 induction l with
 |nil=>simp
 |cons a r ih=>have:=h a;rw[agV,la,aV];omega
theorem jy {α:Type}(f:α->B)(h:∀x,1<=(f x).length)(l:List α)(hl:(l.flatMap f).length<=100000000000000):I64 (l.length:Int):=by have:=dM f h l;exact⟨by omega,by omega⟩
theorem aC {F:Nat}{args:Array Value}{W:World}{v:Value}(h:∀w',Below W.heap.size W w'->Calls Tryd.prog F args w' fun e w''=>e= .returned v/\Below w'.heap.size w' w'')(x:WIn (fun v=>Below W.heap.size W v)):
  Calls Tryd.prog F args x.w fun e w''=>e= .returned v/\∃y:WIn (fun v=>Below W.heap.size W v),w''=y.w:=
 (h x.w x.ok).mono fun _ w'' ⟨h1,h2⟩=>⟨h1,⟨w'',x.ok.trans (h2.mono x.ok.size)⟩,rfl⟩
theorem ag {W:World}{b o:Nat}{u:Value}(h:W.cell? ⟨b,o,none⟩=some u)(x:WIn (fun v=>Below W.heap.size W v)):x.w.cell? ⟨b,o,none⟩=some u:=by have hb:=World.block_lt_of_cell? W _ h;exact((aP x.ok).1 _ _ hb).trans h
theorem GK (w:World)(A:Option Addr)(c:Nat)(l:List Ins)(h:Sl ae9 2 w (Lw w) A l)(hlen:(dO l).length<=100000000000000):
  Calls Tryd.prog 54 #[.slice A l.length c] w fun e w'=>e= .returned (.string ⟨(dO l).toArray⟩)/\Below w.heap.size w w':=by
 have H:=hd0 h;unfold dO at hlen ⊢;rw[la] at hlen;have wL:I64 (l.length:Int):=jy lF G5 l (by omega);have hll:l.length<=100000000000000:=nt (dM lF G5 l) (by omega);have HD0:=hd0 (fun w'=>aA w' (l.length:Int) wL);clear h wL;generalize hD:ah (l.length:Int)=D at*
 clear hD;go_enter Tryd.func54,Tryd.ntmps54
 go_wp2_with fail
 refine(HD0.out _).mono ?_;rintro e w1 ⟨rfl,hb1⟩;have HB1:=hd0 hb1;have H1:=hd0 (H.out.lw ae9.ok hb1);clear hb1 HD0 H;go_wp2_with fail
 go_loopw [3,4] (fun s i wr=>∃k:Nat,k<=l.length/\i= .int .i64 k/\s= .string ⟨(D++(l.take k).flatMap lF).toArray⟩/\Below w1.heap.size w1 wr) (fun _ i _=>l.length - (intOf i).toNat)
 case atStart=>exact⟨0,nz _,rfl,by simp,agE _ _⟩
 case round=>
  obtain⟨k,hk,rfl,rfl,hb⟩:=hrel;have hz:=HB1.out.size;by_cases hlt:k<l.length
  ·obtain⟨b,o,x,rfl,-,hx,q0,q1,i0,i1⟩:=(H1.out.lw ae9.ok hb).ins hlt;have hsn:Hid (D++(l.take (k+1)).flatMap lF=D++(l.take k).flatMap lF++ah x.op++ah x.a):=by show _=_;rw[dB hx.out];simp[lF]
   have hf:=eX (f:=lF) hx.out;rw[lF,la] at hf;have hs1:(D++(l.take k).flatMap lF).length+(ah x.op).length+(ah x.a).length<=100000000000000:=by rw[la];omega
   have HA:=hd0 (aC (W:=wr) (fun w' _=>aA w' x.op i0));have HB:=hd0 (aC (W:=wr) (fun w' _=>aA w' x.a i1));have c0:=ag q0;have c1:=ag q1;clear hx hf i0 i1 q0 q1;generalize D++(l.take k).flatMap lF=S at*
   generalize ah x.op=D1 at*
   generalize ah x.a=D2 at*
   have r1:=bf S D1 (by omega);have hs2:(S++D1).length+D2.length<=100000000000000:=by rw[la];omega
   have r2:=bf (S++D1) D2 hs2;generalize hS2:S++D1++D2=S2 at*
   generalize S++D1=S1 at*
   have HX:=hd0 hb;clear hb hs1 hs2 hS2;go_wp2_with fail
   refine bT (fun v=>Below wr.heap.size wr v) (by kernel_rfl) (by kernel_rfl) ((agE wr.heap.size wr).drew) ?_;have aQ:Nonempty (WIn (fun v=>Below wr.heap.size wr v)):=⟨⟨_,((agE wr.heap.size wr).drew)⟩⟩
   repeat(go_big_quiet_step (first|with_reducible exact HA.out _|with_reducible exact HB.out _))
   refine wpQuiet_nil ?_;intro _ hw';obtain⟨xq,hw''⟩:=hw';subst hw'';go_wp2_with fail
   go_roundw
   case rel=>exact⟨k+1,by omega,by simp,by rw[hsn.out],HX.out.trans (xq.ok.mono HX.out.size)⟩
   case measure=>simp[intOf];omega
  obtain rfl:k=l.length:=by omega
  rw[agK];go_wp2_with fail
  go_ret
  exact⟨rfl,HB1.out.trans (hb.mono hz)⟩
theorem um (w:World)(A:Option Addr)(c:Nat)(l:List Int)(h:Sl aeQ 1 w (Lw w) A l)(hlen:(rowB l).length<=100000000000000):
  Calls Tryd.prog 53 #[.slice A l.length c] w fun e w'=>e= .returned (.string ⟨(rowB l).toArray⟩)/\Below w.heap.size w w':=by
 have H:=hd0 h;unfold rowB at hlen ⊢;rw[la] at hlen;have wL:I64 (l.length:Int):=jy ah dL l (by omega);have hll:l.length<=100000000000000:=nt (dM ah dL l) (by omega);have HD0:=hd0 (fun w'=>aA w' (l.length:Int) wL);clear h wL;generalize hD:ah (l.length:Int)=D at*
 clear hD;go_enter Tryd.func53,Tryd.ntmps53
 go_wp2_with fail
 refine(HD0.out _).mono ?_;rintro e w1 ⟨rfl,hb1⟩;have HB1:=hd0 hb1;have H1:=hd0 (H.out.lw aeQ.ok hb1);clear hb1 HD0 H;go_wp2_with fail
 go_loopw [3,4] (fun s i wr=>∃k:Nat,k<=l.length/\i= .int .i64 k/\s= .string ⟨(D++(l.take k).flatMap ah).toArray⟩/\Below w1.heap.size w1 wr) (fun _ i _=>l.length - (intOf i).toNat)
 case atStart=>exact⟨0,nz _,rfl,by simp,agE _ _⟩
 case round=>
  obtain⟨k,hk,rfl,rfl,hb⟩:=hrel;have hz:=HB1.out.size;by_cases hlt:k<l.length
  ·obtain⟨b,o,x,rfl,-,hx,q0,i0⟩:=(H1.out.lw aeQ.ok hb).int hlt;have hsn:Hid (D++(l.take (k+1)).flatMap ah=D++(l.take k).flatMap ah++ah x):=by show _=_;rw[dB hx.out];simp
   have hf:=eX (f:=ah) hx.out;have hs1:(D++(l.take k).flatMap ah).length+(ah x).length<=100000000000000:=by rw[la];omega
   have HA:=hd0 (aA wr x i0);clear hx hf;generalize D++(l.take k).flatMap ah=S at*
   generalize ah x=D1 at*
   have rS1:∀w',(Op.stringOp .add ⟨S.toArray⟩ ⟨D1.toArray⟩).run Tryd.prog w'= .ok (.string ⟨(S++D1).toArray⟩) w':=bf S D1 (by omega);have lS1:(S++D1).length<=S.length+D1.length:=aW _ _;generalize hS1:S++D1=S1 at*
   have Ec:=hd0 hS1.symm;clear hS1;have HX:=hd0 hb;clear hb hs1;go_wp2_with fail
   refine HA.out.mono ?_;rintro e w2 ⟨rfl,hb2⟩;have Xi:Hid (Below w1.heap.size w1 w2):=hd0 (HX.out.trans (hb2.mono HX.out.size));clear hb2 HA;go_wp2_with fail
   go_roundw
   case rel=>exact⟨k+1,by omega,by simp,by rw[hsn.out,Ec.out],Xi.out⟩
   case measure=>simp[intOf];omega
  obtain rfl:k=l.length:=by omega
  rw[agK];go_wp2_with fail
  go_ret
  exact⟨rfl,HB1.out.trans (hb.mono hz)⟩
theorem zW (w:World)(A:Option Addr)(c:Nat)(l:List (List Int))(h:Sl aeR 1 w (Lw w) A l)(hlen:(jd l).length<=100000000000000):
  Calls Tryd.prog 74 #[.slice A l.length c] w fun e w'=>e= .returned (.string ⟨(jd l).toArray⟩)/\Below w.heap.size w w':=by
 have H:=hd0 h;unfold jd at hlen ⊢;rw[la] at hlen;have wL:I64 (l.length:Int):=jy rowB FV l (by omega);have hll:l.length<=100000000000000:=nt (dM rowB FV l) (by omega);have HD0:=hd0 (fun w'=>aA w' (l.length:Int) wL);clear h wL;generalize hD:ah (l.length:Int)=D at*
 clear hD;go_enter Tryd.func74,Tryd.ntmps74
 go_wp2_with fail
 refine(HD0.out _).mono ?_;rintro e w1 ⟨rfl,hb1⟩;have HB1:=hd0 hb1;have H1:=hd0 (H.out.lw aeR.ok hb1);clear hb1 HD0 H;go_wp2_with fail
 go_loopw [3,4] (fun s i wr=>∃k:Nat,k<=l.length/\i= .int .i64 k/\s= .string ⟨(D++(l.take k).flatMap rowB).toArray⟩/\Below w1.heap.size w1 wr) (fun _ i _=>l.length - (intOf i).toNat)
 case atStart=>exact⟨0,nz _,rfl,by simp,agE _ _⟩
 case round=>
  obtain⟨k,hk,rfl,rfl,hb⟩:=hrel;have hz:=HB1.out.size;by_cases hlt:k<l.length
  ·obtain⟨b,o,x,A1,c1,rfl,-,hx,q0,h0⟩:=(H1.out.lw aeR.ok hb).row hlt;have hsn:Hid (D++(l.take (k+1)).flatMap rowB=D++(l.take k).flatMap rowB++rowB x):=by show _=_;rw[dB hx.out];simp
   have hf:=eX (f:=rowB) hx.out;have hs1:(D++(l.take k).flatMap rowB).length+(rowB x).length<=100000000000000:=by rw[la];omega
   have HA:=hd0 (um wr A1 c1 x h0 (by omega));clear hx hf;generalize D++(l.take k).flatMap rowB=S at*
   generalize rowB x=D1 at*
   have rS2:∀w',(Op.stringOp .add ⟨S.toArray⟩ ⟨D1.toArray⟩).run Tryd.prog w'= .ok (.string ⟨(S++D1).toArray⟩) w':=bf S D1 (by omega);have lS2:(S++D1).length<=S.length+D1.length:=aW _ _;generalize hS2:S++D1=S2 at*
   have HS2:=hd0 hS2.symm;clear hS2;have HX:=hd0 hb;clear hb hs1;go_wp2_with fail
   refine HA.out.mono ?_;rintro e w2 ⟨rfl,hb2⟩;have Xi:Hid (Below w1.heap.size w1 w2):=hd0 (HX.out.trans (hb2.mono HX.out.size));clear hb2 HA;go_wp2_with fail
   go_roundw
   case rel=>exact⟨k+1,by omega,by simp,by rw[hsn.out,HS2.out],Xi.out⟩
   case measure=>simp[intOf];omega
  obtain rfl:k=l.length:=by omega
  rw[agK];go_wp2_with fail
  go_ret
  exact⟨rfl,HB1.out.trans (hb.mono hz)⟩
end Go.Proofs.YtkijckccfookeaaDoor
