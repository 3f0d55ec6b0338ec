/- Lemmas. -/
import Derived.Test.YtkijckccfookeaaGreatDoorV20
set_option linter.unusedVariables false
set_option linter.unusedSimpArgs false
set_option maxRecDepth 100000
set_option maxHeartbeats 32000000
namespace Go.Proofs.YtkijckccfookeaaGreatDoor
open Go.RowKit
structure ai8 (m:Nat)(x:aip):Prop where
 name:nameB x.name=true
 ahP:∀n∈x.ahP,In m n
 few:x.ahP.length<=m
def UpI (l:List Int)(k n:Nat):Prop:=∀j x,j<k->l[j]? =some x->In n x/\(j:Int)<=x
theorem UpI.zero (l:List Int)(n:Nat):UpI l 0 n:=fun j x hj=>by omega
theorem UpI.snoc {l:List Int}{k n:Nat}{y:Int}(h:UpI l k n)(hy:l[k]? =some y)(hP:In n y)(hk:(k:Int)<=y):UpI l (k+1) n:=fun j x hj hx=>by
 by_cases e:j=k
 ·subst e;rw[hy] at hx;cases hx;exact⟨hP,hk⟩
 exact h j x (by omega) hx
theorem UpI.next {l:List Int}{k n:Nat}{y z:Int}(h:UpI l (k+1) n)(hy:l[k]? =some y)(hz:l[k+1]? =some z)(hP:In n z)(hk:¬z<=y):UpI l (k+1+1) n:=h.snoc hz hP (by have:=(h k y (by omega) hy).2;omega)
theorem UpI.all {l:List Int}{n:Nat}(h:UpI l l.length n):∀x∈l,In n x:=fun x hx=>by
 obtain⟨j,hj,rfl⟩:=List.getElem_of_mem hx;exact(h j _ hj (ako hj)).1
theorem UpI.few {l:List Int}{n:Nat}(h:UpI l l.length n):l.length<=n:=by
 by_cases e:l.length=0
 ·omega
 obtain⟨⟨a,b⟩,c⟩:=h (l.length - 1) _ (by omega) (ako (by omega));omega
structure ajK (x:aip):Prop where
 name:Big x.name.length
 ahP:Big x.ahP.length
theorem V9 (w:World)(f:Fnt)(A1 A2 A3 A4 A5 A6 A7 A8:Option Addr)(c1 c2 c3 c4 c5 c6 c7 c8:Nat)(k:Nat)(hF:FIn ⟨A1,c1,A2,c2,A3,c3,A4,c4,A5,c5,A6,c6,A7,c7,A8,c8⟩ f w)(l:aip)(hg:f.features[k]? =some l)(hk:k<f.features.length)(hn:Big f.features.length)(hm:Big f.ahP.length)(hB:ajK l):Calls Tryz.prog 114 #[.agg #[.int .i64 f.unit,.slice A1 f.ahO.length c1,.slice A2 f.chars.length c2,.slice A3 f.ahP.length c3,.slice A4 f.features.length c4,.slice A5 f.ahQ.length c5,.slice A6 f.regions.length c6,.slice A7 f.funcs.length c7,.slice A8 f.cvt.length c8],.int .i64 k] w (OkE w (ai8 f.ahP.length l)):=by
 obtain⟨P,HP⟩:∃P:Prop,Hid (P=(ai8 f.ahP.length l)):=⟨_,rfl⟩
 rw[<-HP.out];unfold Big at hn hm;have HG:=hd0 hg;obtain⟨Wf,hWf,hbf,bW⟩:=aQ w 32 #[.int .i64 f.unit,.slice A1 f.ahO.length c1,.slice A2 f.chars.length c2,.slice A3 f.ahP.length c3,.slice A4 f.features.length c4,.slice A5 f.ahQ.length c5,.slice A6 f.regions.length c6,.slice A7 f.funcs.length c7,.slice A8 f.cvt.length c8];have aZ:Hid (Below w.heap.size w Wf):=hd0 hbf;have lg:=hd0 bW;have kN:=hd0 (hF.below hbf);obtain⟨b,o,x,B2,d2,hA1,hb,hx,q0,q1,s2⟩:=kN.out.ahZ.ai9 (k:=k) hk;simp only at hA1;subst hA1;obtain rfl:x=l:=by have:=hx.out;rw[HG.out] at this;exact(Option.some.inj this).symm
 obtain⟨Wl,hWl,hbl,hkl⟩:=aQ Wf 97 #[.string ⟨x.name.toArray⟩,.slice B2 x.ahP.length d2];have rf:Hid (Below w.heap.size w Wl):=hd0 (aZ.out.trans (hbl.mono aZ.out.size));have AV:=hd0 hkl;have aH:Hid (Bk Wl w.heap.size 32 #[.int .i64 f.unit,.slice A1 f.ahO.length c1,.slice A2 f.chars.length c2,.slice A3 f.ahP.length c3,.slice (some ⟨b,o,none⟩) f.features.length c4,.slice A5 f.ahQ.length c5,.slice A6 f.regions.length c6,.slice A7 f.funcs.length c7,.slice A8 f.cvt.length c8]):=hd0 (Bk.bel bW hbl);have hzl:=rf.out.size;have k4:=bW.cell 4;have m0:=hkl.cell 0;have m1:=hkl.cell 1;have HXl:=hd0 (kN.out.ahZ.lw ah2.ok hbl);have YF:=hd0 (s2.lw ahT.ok hbl);obtain⟨hB1,hB2⟩:=hB;unfold Big at hB1 hB2;clear hb s2 hF hg hx;have bn1:decide ((k:Int)<0)=false:=decide_eq_false (by omega);have bn2:decide ((f.features.length:Int)<=(k:Int))=false:=decide_eq_false (by omega);go_enter Tryz.func114,Tryz.ntmps114
 clear hbf bW hbl hkl;by_cases h1:x.name.length<1
 ·have bh1:decide ((x.name.length:Int)<1)=true:=decide_eq_true (by omega);go_wp2_with fail
  go_ret
  exact OkE.bad _ (by decide) rf.out
 have bh1:decide ((x.name.length:Int)<1)=false:=decide_eq_false (by omega);by_cases h2:8<x.name.length
 ·have mf:decide ((8:Int)<x.name.length)=true:=decide_eq_true (by omega);go_wp2_with fail
  go_ret
  exact OkE.bad _ (by decide) rf.out
 have mf:decide ((8:Int)<x.name.length)=false:=decide_eq_false (by omega);go_wp2_with fail
 try clear hWf
 try clear hWl
 clear q0 q1;go_loopw [6] (fun i wr=>∃q:Nat,q<=x.name.length/\i= .int .i64 q/\Hid (∀j c,j<q->x.name[j]? =some c->nameAt j c=true)/\Wl=wr) (fun i _=>x.name.length - (intOf i).toNat)
 case atStart=>exact⟨0,by omega,rfl,hd0 (by omega),rfl⟩
 case round=>
  obtain⟨q,hq,rfl,hall,rfl⟩:=hrel;by_cases hlt:q<x.name.length
  ·obtain⟨c,hc⟩:∃c,x.name[q]? =some c:=⟨_,ako hlt⟩
   have hb:=byte_at x.name q c hc hlt;have hend:Hid (nameAt q c=true->∀j d,j<q+1->x.name[j]? =some d->nameAt j d=true):=by
    intro hn j d hj hd;by_cases hjk:j=q
    ·subst hjk;rw[hc] at hd;cases hd;exact hn
    exact hall.out j d (by omega) hd
   clear hc;by_cases h1:(c.toNat:Int)<97
   ·have bh1:decide ((c.toNat:Int)<97)=true:=decide_eq_true h1;by_cases h3:(c.toNat:Int)<65
    ·have kM:decide ((c.toNat:Int)<65)=true:=decide_eq_true h3;go_wp2_with fail
     go_ret
     exact OkE.bad _ (by decide) rf.out
    have kM:decide ((c.toNat:Int)<65)=false:=decide_eq_false h3;by_cases h4:90<(c.toNat:Int)
    ·have uK:decide (90<(c.toNat:Int))=true:=decide_eq_true h4;go_wp2_with fail
     go_ret
     exact OkE.bad _ (by decide) rf.out
    have uK:decide (90<(c.toNat:Int))=false:=decide_eq_false h4;have Qi:=hd0 (hend.out ((nZ q c).2 (by omega)));go_wp2_with fail
    go_roundw
    case rel=>exact⟨q+1,by omega,by simp,Qi,by trivial⟩
    case measure=>simp[intOf];omega
   have bh1:decide ((c.toNat:Int)<97)=false:=decide_eq_false h1;by_cases h2:122<(c.toNat:Int)
   ·have mf:decide (122<(c.toNat:Int))=true:=decide_eq_true h2;have kM:decide ((c.toNat:Int)<65)=false:=decide_eq_false (by omega);have uK:decide (90<(c.toNat:Int))=true:=decide_eq_true (by omega);go_wp2_with fail
    go_ret
    exact OkE.bad _ (by decide) rf.out
   have mf:decide (122<(c.toNat:Int))=false:=decide_eq_false h2;have Qi:=hd0 (hend.out ((nZ q c).2 (by omega)));go_wp2_with fail
   go_roundw
   case rel=>exact⟨q+1,by omega,by simp,Qi,by trivial⟩
   case measure=>simp[intOf];omega
  obtain rfl:q=x.name.length:=by omega
  have HN:Hid (nameB x.name=true):=hd0 (by rw[zu x.name hall.out];exact decide_eq_true ⟨by omega,by omega⟩);clear hall;go_wp2_with fail
  go_loopw [8] (fun i wr=>∃j:Nat,j<=k/\i= .int .i64 j/\Below Wl.heap.size Wl wr) (fun i _=>k - (intOf i).toNat)
  case atStart=>exact⟨0,by omega,rfl,akl _ _⟩
  case round=>
   obtain⟨w5,rfl⟩:∃x,x=wr:=⟨_,rfl⟩
   obtain⟨j,hj,rfl,hb5⟩:=hrel;have iD:Hid (Below Wl.heap.size Wl w5):=hd0 hb5;have E5:Hid (Below w.heap.size w w5):=hd0 (rf.out.trans (hb5.mono hzl));clear m0 m1 k4;have m0:=AV.out.at hb5 0 rfl;have m1:=AV.out.at hb5 1 rfl;have k4:=aH.out.at hb5 4 rfl;by_cases hjk:j<k
   ·obtain⟨b2,o2,z,Z1,t1,e2,hb2,hz,v0,-,-⟩:=(HXl.out.lw ah2.ok hb5).ai9 (k:=j) (by omega);obtain⟨rfl,rfl⟩:b=b2/\o=o2:=by simpa using e2
    clear hb2 e2 hb5 m1;by_cases hnm:z.name=x.name
    ·have hq2:(z.name==x.name)=true:=by rw[hnm];simp
     clear hnm;go_wp2_with fail
     go_quiet (fail)
     go_wp2_with fail
     go_ret
     exact OkE.bad _ (by decide) (below_drewN E5.out _)
    have hq2:(z.name==x.name)=false:=by simpa using hnm
    clear hnm hz;go_wp2_with fail
    go_quiet (fail)
    go_wp2_with fail
    go_roundw
    case rel=>exact⟨j+1,by omega,by simp,below_drewN iD.out _⟩
    case measure=>simp[intOf];omega
   obtain rfl:j=k:=by omega
   clear hb5 m0 k4;go_wp2_with fail
   go_loopw [9] (fun i wr=>∃q:Nat,q<=x.ahP.length/\i= .int .i64 q/\Hid (UpI x.ahP q f.ahP.length)/\Below Wl.heap.size Wl wr) (fun i _=>x.ahP.length - (intOf i).toNat)
   case atStart=>exact⟨0,by omega,rfl,hd0 (UpI.zero _ _),iD.out⟩
   case round=>
    obtain⟨w6,rfl⟩:∃x,x=wr:=⟨_,rfl⟩
    obtain⟨q,hq,rfl,hup,hb6⟩:=hrel;have gY:Hid (Below Wl.heap.size Wl w6):=hd0 hb6;have E6:Hid (Below w.heap.size w w6):=hd0 (rf.out.trans (hb6.mono hzl));clear m1;have m1:=AV.out.at hb6 1 rfl;have k3:=aH.out.at hb6 3 rfl;by_cases hlt:q<x.ahP.length
    ·obtain⟨b3,o3,e,rfl,hb3,hx3,q0,r0⟩:=(YF.out.lw ahT.ok hb6).int hlt;clear hb3 r0 hb6;by_cases h1:e<0
     ·have bh1:decide (e<0)=true:=decide_eq_true h1;go_wp2_with fail
      go_quiet (fail)
      go_wp2_with fail
      go_ret
      exact OkE.bad _ (by decide) (below_drewN E6.out _)
     have bh1:decide (e<0)=false:=decide_eq_false h1;by_cases h2:(f.ahP.length:Int)<=e
     ·have mf:decide ((f.ahP.length:Int)<=e)=true:=decide_eq_true h2;go_wp2_with fail
      go_quiet (fail)
      go_wp2_with fail
      go_ret
      exact OkE.bad _ (by decide) (below_drewN E6.out _)
     have mf:decide ((f.ahP.length:Int)<=e)=false:=decide_eq_false h2;by_cases hk0:q=0
     ·subst hk0;have dm:Hid (UpI x.ahP (0+1) f.ahP.length):=hd0 (hup.out.snoc hx3.out (In.of h1 h2) (by omega));have e0:((0:Nat):Int)=0:=rfl;simp only[Nat.add_zero] at q0;rw[e0];go_wp2_with fail
      go_quiet (fail)
      go_wp2_with fail
      go_roundw
      case rel=>exact⟨0+1,by omega,by simp,dm,below_drewN gY.out _⟩
      case measure=>simp[intOf];omega
     obtain⟨j,rfl⟩:∃j,q=j+1:=⟨q - 1,by omega⟩
     have bk:decide (0<((j+1:Nat):Int))=true:=decide_eq_true (by omega);have ej:((j+1:Nat):Int) - 1=(j:Int):=by omega
     obtain⟨b',o',y,e',hb',hy,q1,r1⟩:=(YF.out.lw ahT.ok gY.out).int (k:=j) (by omega);obtain⟨rfl,rfl⟩:b3=b'/\o3=o':=by simpa using e'
     clear hb' r1 e';by_cases h3:e<=y
     ·have kM:decide (e<=y)=true:=decide_eq_true h3;go_wp2_with fail
      go_quiet (fail)
      go_wp2_with fail
      go_ret
      exact OkE.bad _ (by decide) (below_drewN E6.out _)
     have kM:decide (e<=y)=false:=decide_eq_false h3;have dm:=hd0 (hup.out.next hy.out hx3.out (In.of h1 h2) h3);go_wp2_with fail
     go_quiet (fail)
     go_wp2_with fail
     go_roundw
     case rel=>exact⟨j+1+1,by omega,by simp,dm,below_drewN gY.out _⟩
     case measure=>simp[intOf];omega
    obtain rfl:q=x.ahP.length:=by omega
    have hg:P:=HP.out.mpr ⟨HN.out,hup.out.all,hup.out.few⟩;clear hb6;go_wp2_with fail
    go_ret
    exact OkE.good hg E6.out
def Si (p:List Ins):Prop:=p.length<=200/\xg p
abbrev rX:TypeId:=107
def Ed (w:World)(P:Prop)(e:Ending)(w':World):Prop:=∃r a:Int,e= .returned (.agg #[.int .i64 r,.int .i64 a])/\(r=0->P)/\Below w.heap.size w w'
theorem ZZ:(Tryz.prog.info? rX).map (·.size)=some 2:=by kernel_rfl
theorem NZ {fn:Func}(h:fn.results= #[.cell 2 rX]){W:World}{g:Nat}{a b:Value}{tmps:Array Value}(hb:Bk W g rX #[a,b])(h2:tmps.getD 2 undef= .pointer (some ⟨g,0,none⟩)):(results fn tmps).run Tryz.prog W= .ok (.agg #[a,b]) W:=by
 have h3:(results fn tmps).run Tryz.prog W=((asAddr (tmps.getD 2 undef)).run Tryz.prog W).andThen fun a w₁=>((loadVar rX a).run Tryz.prog w₁):=by simp only[results,h];simp[Sem.run_bind,Result.andThen]
 rw[h3,h2];have:=run_loadVar_row (P:=Tryz.prog) W g rX rX #[a,b] (0,0) _ hb Tryz.underlying107 rfl (by rw[ZZ];rfl);simp[asAddr,Result.andThen,this]
theorem aX {fn:Func}(h:fn.results= #[.cell 2 rX]){w W Wg:World}{P:Prop}{g:Nat}{x y:Value}(hk:Bk Wg g rX #[x,y])(hb:Below Wg.heap.size Wg W)(hg:w.heap.size<=g)(hw:Below w.heap.size w W)(r a:Int){tmps:Array Value}(h2:tmps.getD 2 undef= .pointer (some ⟨g,0,none⟩))(hP:r=0->P):
  bodyPost Tryz.prog fn (Ed w P) Exit.ret {tmps:=tmps,defers:=[]} ((W.setCell ⟨g,0,none⟩ (.int .i64 r)).setCell ⟨g,1,none⟩ (.int .i64 a)):=by
 have h1:Bk ((W.setCell ⟨g,0,none⟩ (.int .i64 r)).setCell ⟨g,1,none⟩ (.int .i64 a)) g rX #[.int .i64 r,.int .i64 a]:=by have:=((hk.bel hb).set 0 (.int .i64 r)).set 1 (.int .i64 a);simpa using this
 exact bodyPost_ret (NZ h h1 h2) rfl ⟨r,a,rfl,hP,(hw.setCell hg _).setCell hg _⟩
theorem Vh (w:World)(f:Fnt)(A1 A2 A3 A4 A5 A6 A7 A8:Option Addr)(c1 c2 c3 c4 c5 c6 c7 c8:Nat)(hF:FIn ⟨A1,c1,A2,c2,A3,c3,A4,c4,A5,c5,A6,c6,A7,c7,A8,c8⟩ f w)(hn:Big f.funcs.length)(hm:Big f.cvt.length)(hl:∀p∈f.funcs,Big p.length):Calls Tryz.prog 69 #[.agg #[.int .i64 f.unit,.slice A1 f.ahO.length c1,.slice A2 f.chars.length c2,.slice A3 f.ahP.length c3,.slice A4 f.features.length c4,.slice A5 f.ahQ.length c5,.slice A6 f.regions.length c6,.slice A7 f.funcs.length c7,.slice A8 f.cvt.length c8]] w (Ed w ((f.funcs.length<=20/\∀p∈f.funcs,Si p)/\f.cvt.length<=64/\∀n∈f.cvt,N9 n)):=by
 obtain⟨P,HP⟩:∃P:Prop,Hid (P=((f.funcs.length<=20/\∀p∈f.funcs,Si p)/\f.cvt.length<=64/\∀n∈f.cvt,N9 n)):=⟨_,rfl⟩
 rw[<-HP.out];unfold Big at hn hm;obtain⟨Wf,hWf,hbf,bW⟩:=aQ w 32 #[.int .i64 f.unit,.slice A1 f.ahO.length c1,.slice A2 f.chars.length c2,.slice A3 f.ahP.length c3,.slice A4 f.features.length c4,.slice A5 f.ahQ.length c5,.slice A6 f.regions.length c6,.slice A7 f.funcs.length c7,.slice A8 f.cvt.length c8];have aZ:Hid (Below w.heap.size w Wf):=hd0 hbf;have lg:=hd0 bW;have kN:=hd0 (hF.below hbf);obtain⟨Wg,oH,hbg,hkg⟩:=aQ Wf 107 #[.int .i64 0,.int .i64 0];have dh:Hid (Below w.heap.size w Wg):=hd0 (aZ.out.trans (hbg.mono aZ.out.size));have ak:=hd0 hkg;have aH:Hid (Bk Wg w.heap.size 32 #[.int .i64 f.unit,.slice A1 f.ahO.length c1,.slice A2 f.chars.length c2,.slice A3 f.ahP.length c3,.slice A4 f.features.length c4,.slice A5 f.ahQ.length c5,.slice A6 f.regions.length c6,.slice A7 f.funcs.length c7,.slice A8 f.cvt.length c8]):=hd0 (Bk.bel bW hbg);have HF2:=hd0 (kN.out.below hbg);have hzg:=dh.out.size;have mQ:Hid (Below Wg.heap.size Wg Wg):=hd0 (akl _ _);have k7:=aH.out.cell 7;have g0:=hkg.cell 0;have g1:=hkg.cell 1;have z0:=hkg.frozen 0;have z1:=hkg.frozen 1;clear hF hbf bW hbg hkg kN;go_enter Tryz.func69,Tryz.ntmps69
 by_cases h1:20<f.funcs.length
 ·have bh1:decide ((20:Int)<f.funcs.length)=true:=decide_eq_true (by omega);go_wp2_with fail
  exact aX rfl ak.out mQ.out aZ.out.size dh.out _ _ rfl (fun h=>absurd h (by decide))
 have bh1:decide ((20:Int)<f.funcs.length)=false:=decide_eq_false (by omega);go_wp2_with fail
 try clear hWf
 try clear oH
 go_loopw [3] (fun i wr=>∃q:Nat,q<=f.funcs.length/\i= .int .i64 q/\Hid (Up f.funcs q Si)/\Below Wg.heap.size Wg wr) (fun i _=>f.funcs.length - (intOf i).toNat)
 case atStart=>exact⟨0,by omega,rfl,hd0 (Up.zero _ _),akl _ _⟩
 case round=>
  obtain⟨w5,rfl⟩:∃x,x=wr:=⟨_,rfl⟩
  obtain⟨q,hq,rfl,hup,hb5⟩:=hrel;have iD:Hid (Below Wg.heap.size Wg w5):=hd0 hb5;have E5:Hid (Below w.heap.size w w5):=hd0 (dh.out.trans (hb5.mono hzg));clear k7;clear g0 g1 z0 z1;have k7:=aH.out.at hb5 7 rfl;have k8:=aH.out.at hb5 8 rfl;have g0:=ak.out.at hb5 0 rfl;have g1:=ak.out.at hb5 1 rfl;have z0:=(ak.out.bel hb5).frozen 0;have z1:=(ak.out.bel hb5).frozen 1;by_cases hlt:q<f.funcs.length
  ·obtain⟨b,o,x,D,t,rfl,hb,hx,q0,s0⟩:=(HF2.out.funcs.lw aih.ok hb5).code hlt;have HO:=hd0 (O7 w5 D t x s0 (hl x (akt hx.out)));clear hb s0 hb5;go_wp2_with fail
   refine HO.out.mono ?_;rintro e w4 ⟨r4,rfl,CU,uV⟩;have hb4:Below Wg.heap.size Wg w4:=iD.out.trans (uV.mono iD.out.size);have HB4:Hid (Below Wg.heap.size Wg w4):=hd0 hb4;have E4:Hid (Below w.heap.size w w4):=hd0 (dh.out.trans (hb4.mono hzg));clear k7 k8;clear g0 g1 z0 z1;have g0:=ak.out.at hb4 0 rfl;have g1:=ak.out.at hb4 1 rfl;have z0:=(ak.out.bel hb4).frozen 0;have z1:=(ak.out.bel hb4).frozen 1;clear HO hb4 uV;by_cases hr:r4=0
   ·have dm:=hd0 (hup.out.snoc hx.out (CU hr));clear CU;subst hr;go_wp2_with fail
    go_roundw
    case rel=>exact⟨q+1,by omega,by simp,dm,HB4.out⟩
    case measure=>simp[intOf];omega
   clear CU;have OU:(r4 !=0)=true:=gI hr;go_wp2_with fail
   exact aX rfl ak.out HB4.out aZ.out.size E4.out _ _ rfl (fun h=>absurd h hr)
  obtain rfl:q=f.funcs.length:=by omega
  have HU:=hd0 (fun x (hx:x∈f.funcs)=>hup.out.all x hx);clear hup hb5;by_cases h3:64<f.cvt.length
  ·have kM:decide ((64:Int)<f.cvt.length)=true:=decide_eq_true (by omega);go_wp2_with fail
   exact aX rfl ak.out iD.out aZ.out.size E5.out _ _ rfl (fun h=>absurd h (by decide))
  have kM:decide ((64:Int)<f.cvt.length)=false:=decide_eq_false (by omega);go_wp2_with fail
  clear k7;go_loopw [5] (fun i wr=>∃q:Nat,q<=f.cvt.length/\i= .int .i64 q/\Hid (Up f.cvt q N9)/\Below Wg.heap.size Wg wr) (fun i _=>f.cvt.length - (intOf i).toNat)
  case atStart=>exact⟨0,by omega,rfl,hd0 (Up.zero _ _),iD.out⟩
  case round=>
   obtain⟨w6,rfl⟩:∃x,x=wr:=⟨_,rfl⟩
   obtain⟨q,hq,rfl,hup,hb6⟩:=hrel;have gY:Hid (Below Wg.heap.size Wg w6):=hd0 hb6;have E6:Hid (Below w.heap.size w w6):=hd0 (dh.out.trans (hb6.mono hzg));clear k8;clear g0 g1 z0 z1;have k8:=aH.out.at hb6 8 rfl;have g0:=ak.out.at hb6 0 rfl;have g1:=ak.out.at hb6 1 rfl;have z0:=(ak.out.bel hb6).frozen 0;have z1:=(ak.out.bel hb6).frozen 1;by_cases hlt:q<f.cvt.length
   ·obtain⟨b,o,e,rfl,hb,hx,q0,-⟩:=(HF2.out.cvt.lw ahT.ok hb6).int hlt;clear hb hb6;by_cases m1:fO e=false
    ·go_wp2_with (first|(go_at_call 116;refine(dD _ _).mono ?_;rintro e w' ⟨rfl,rfl⟩))
     exact aX rfl ak.out gY.out aZ.out.size E6.out _ _ rfl (fun h=>absurd h (by decide))
    have wW:fO e=true:=by simpa using m1
    have dm:=hd0 (hup.out.snoc hx.out (mg wW));go_wp2_with (first|(go_at_call 116;refine(dD _ _).mono ?_;rintro e w' ⟨rfl,rfl⟩))
    go_roundw
    case rel=>exact⟨q+1,by omega,by simp,dm,gY.out⟩
    case measure=>simp[intOf];omega
   obtain rfl:q=f.cvt.length:=by omega
   have hg:P:=HP.out.mpr ⟨⟨by omega,HU.out⟩,by omega,fun n hn=>hup.out.all n hn⟩;clear hb6;go_wp2_with fail
   exact aX rfl ak.out gY.out aZ.out.size E6.out 0 _ rfl (fun _=>hg)
end Go.Proofs.YtkijckccfookeaaGreatDoor
