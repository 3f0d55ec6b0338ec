/- Lemmas. -/
import Derived.Test.YtkijckccfookeaaGreatDoorU35
set_option linter.unusedVariables false
set_option linter.unusedSimpArgs false
set_option maxRecDepth 100000
set_option maxHeartbeats 32000000
namespace Go.Proofs.YtkijckccfookeaaGreatDoor
section
open Go.RowKit
def jF:List (List B)->Nat
 |[]=>0
 |(w::_)::ls=>if w=dY then jF ls+1 else jF ls
 |[]::ls=>jF ls
theorem uI (w:B)(r:List B)(L:List (List B)):jF ((w::r)::L)=if w=dY then jF L+1 else jF L:=rfl
theorem EO (n:Nat)(a:List (List B))(l:List B):bf n (a++[l])=bf n a++bf (n+jF a) [l]:=by
 induction a generalizing n with
 |nil=>rfl
 |cons x a ih=>
  cases x with
  |nil=>exact ih n
  |cons w r=>
   rw[anL,iY,iY,uI];split
   ·rw[ih,anH,show n+1+jF a=n+(jF a+1) by omega]
   exact ih n
theorem V6 (a:List (List B))(w:B)(r:List B):jF (a++[w::r])=if w=dY then jF a+1 else jF a:=by
 induction a with
 |nil=>rfl
 |cons x a ih=>
  cases x with
  |nil=>exact ih
  |cons v q=>rw[anL,uI,uI,ih];split<;>split<;>rfl
theorem Sm (a:List (List B)):jF a<=a.length:=by
 induction a with
 |nil=>exact af _
 |cons x a ih=>
  cases x with
  |nil=>exact Nat.le_succ_of_le ih
  |cons w r=>rw[uI,aT];split<;>omega
def gF (gl:Gl):B->Option Value:=fun t=>(gl.lookup t).map fun n=> .int .i64 (n:Nat)
theorem Xb (n:Nat)(L:List (List B))(t:B)(m:Nat)(h:(bf n L).lookup t=some m):m<n+jF L:=by
 have key:∀(L:List (List B)) (n:Nat),∀x∈bf n L,x.2<n+jF L:=by
  intro L;induction L with
  |nil=>intro n x hx;simp[bf] at hx
  |cons l L ih=>
   intro n x hx;cases l with
   |nil=>exact ih n x hx
   |cons w r=>
    rw[iY] at hx;rw[uI];split at hx
    ·rename_i hw;rw[if_pos hw];rw[anz] at hx;rcases hx with hx|hx
     ·unfold yA at hx;split at hx
      ·split at hx
       ·simp only[anu] at hx;subst hx;simp only;omega
       simp at hx
      simp at hx
     have:=ih (n+1) x hx;omega
    rename_i hw;rw[if_neg hw];exact ih n x hx
 have hm:(t,m)∈bf n L:=by
  revert h
  generalize bf n L=G;intro h;induction G with
  |nil=>simp at h
  |cons a G ih=>
   obtain⟨x,y⟩:=a;rw[List.lookup] at h;split at h
   ·rename_i hb;have:t=x:=by simpa using hb
    subst this;injection h with h
    subst h;simp
   exact List.mem_cons_of_mem _ (ih h)
 exact key L n _ hm
theorem QF {w wr:World}{A:Option Addr}{n k:Nat}{hs:List Value}{rows:List (List P3)}(hr:RdT w 119 A n 1 hs)(hin:RowsIn dZ w hs rows)(hb:Below w.heap.size w wr)(hk:k<n):
  ∃b o r Ar kr cr,A=some ⟨b,o,none⟩/\Hid (rows[k]? =some r)/\b<wr.heap.size/\wr.cell? ⟨b,o+k,none⟩=some (.slice Ar kr cr)/\RdT wr dZ Ar kr 3 (dD r)/\kr=r.length/\kr<=cr:=by
 have hr':=hr.below hb;have hin':=hin.below hb;obtain⟨b,o,cur,e,hbk,hc⟩:=hr'.2 (by omega);have hl:hs.length=n:=by have:=hr.1;omega
 have hk2:k<rows.length:=by rw[<-hin.1,hl];exact hk
 obtain⟨Ar,kr,cr,g1,g2,g3⟩:=hin'.2 k _ (anw hk2);exact⟨b,o,rows[k],Ar,kr,cr,e,anw hk2,hbk.lt,(hbk.cell _).trans (hc k _ g1),g2,g2.rd.alH.symm,g3⟩
theorem adX (w:World):(Instr.makeMap 112 none).run Tryz.prog w= .ok (.map (some w.heap.size)) (w.alloc (.map #[] 0)):=by
 simp[Instr.makeMap,run_underlying Tryz.underlying112,Result.andThen,newObj,go_sem]
 try rfl
def alV (w:World)(L:List (List B))(k:Nat)(wr:World):Prop:=akW mi wr w.heap.size (gF (bf 0 (L.take k)))/\Below w.heap.size w wr
theorem aci {G H:Gl}(h:∀t,H.lookup t=G.lookup t):∀t,gF H t=gF G t:=fun t=>by unfold gF;rw[h]
theorem alV.skip {w wr w1:World}{L:List (List B)}{k:Nat}{l:List B}(h:alV w L k wr)(hk:L[k]? =some l)(hb:Below wr.heap.size wr w1)(hs:∀t,(bf (0+jF (L.take k)) [l]).lookup t=none\/((bf 0 (L.take k)).lookup t).isSome):alV w L (k+1) w1:=by
 refine⟨(h.1.below hb).congr fun t=> ?_,h.2.trans (hb.mono h.2.size)⟩;refine aci (fun t=> ?_) t;rw[aob,hk,Option.toList_some,EO,List.lookup_append];rcases hs t with h|h
 ·rw[h,Option.or_none]
 cases hx:(bf 0 (L.take k)).lookup t with
 |none=>rw[hx] at h;cases h
 |some v=>rfl
theorem alV.put {w wr w1:World}{L:List (List B)}{k:Nat}{v:B}{l:List B}(h:alV w L k wr)(hk:L[k]? =some (dY::v::l))(hv:nameB v=true)(hn:(bf 0 (L.take k)).lookup v=none)
  (hm:akW mi w1 w.heap.size (fun t=>if t=v then some (.int .i64 (jF (L.take k):Nat)) else gF (bf 0 (L.take k)) t)) (hg:wr.grownBy w1 (some w.heap.size)):alV w L (k+1) w1:=by
 refine⟨hm.congr fun t=> ?_,h.2.grown hg h.2.size (fun k e=>by cases e;exact af _)⟩;unfold gF;rw[aob,hk,Option.toList_some,EO,List.lookup_append];have e1:bf (0+jF (L.take k)) [dY::v::l]=[(v,jF (L.take k))]:=by rw[iY,if_pos rfl,yA];simp[hv,bf]
 rw[e1];by_cases ht:t=v
 ·subst ht;rw[if_pos rfl,hn];simp[List.lookup]
 have hb:(t==v)=false:=by simpa using ht
 rw[if_neg ht,List.lookup,hb];simp
theorem Ls (w:World)(A:Option Addr)(n c:Nat)(rows:List (List P3))(hs:List Value)(hr:RdT w 119 A n 1 hs)(hin:RowsIn dZ w hs rows)(hn:n<=1000000000)(hne:∀r∈rows,r≠[])(hl:∀r∈rows,r.length<=1000000000/\∀x∈r,x.2.2.length<=100000000):
  Calls Tryz.prog 39 #[.slice A n c] w fun e w'=>∃M,e= .returned (.map (some M))/\w.heap.size<=M/\akW mi w' M (gF (bf 0 (aO rows)))/\Below w.heap.size w w':=by
 have hlen:hs.length=n:=by have:=hr.1;omega
 have hrl:=hd0 (show(aO rows).length=n by unfold aO;rw[anB,<-hin.1];exact hlen);have HW:=hd0 hr;have Xk:=hd0 hin;have HL:=hd0 hl;have HNE:=hd0 hne;have hmk:=adX w;clear hr hin hl hne hlen;go_enter Tryz.func39,Tryz.ntmps39
 go_wp2_with fail
 clear hmk;go_loopw [4,12] (fun cnt i wr=>∃k:Nat,k<=n/\i= .int .i64 k/\cnt= .int .i64 (jF ((aO rows).take k):Nat)/\alV w (aO rows) k wr) (fun _ i _=>n - (intOf i).toNat)
 case atStart=>exact⟨0,nz _,rfl,rfl,akW.new mi w,(ant _ _).alloc (af _) _⟩
 case round=>
  obtain⟨k,hk,rfl,rfl,hst⟩:=hrel;have zm:=hst.1.lt;by_cases hlt:k<n
  ·obtain⟨b,o,r,Ar,kr,cr,rfl,hp,hbw,q1,hrd,hkr,-⟩:=QF HW.out Xk.out hst.2 hlt;have hrm:=anC hp.out;have hLn:alg wr Ar kr r:=⟨hrd,(HL.out r hrm).2,by rw[hkr];exact(HL.out r hrm).1⟩
   obtain⟨t,l,htx⟩:∃t l,ag r=t::l:=by
    have:=HNE.out r hrm;cases r with
    |nil=>exact absurd rfl this
    |cons x q=>exact⟨_,_,rfl⟩
   have hkl:(aO rows)[k]? =some (t::l):=by unfold aO;rw[anX,hp.out,Option.map_some,htx]
   have hkn:kr=l.length+1:=by rw[<-hLn.length];exact dF htx
   obtain⟨b1,o1,rfl,hb1,p1,hz1⟩:=hLn.word (k:=0) (t:=t) (by rw[htx];rfl) (d:=0) rfl;have hcl:=Sm ((aO rows).take k);rw[anQ,hrl.out] at hcl;have hcs:Hid (jF ((aO rows).take (k+1))=if t=dY then jF ((aO rows).take k)+1 else jF ((aO rows).take k)):=by show _=_;rw[aob,hkl,Option.toList_some,V6]
   have HST:=hd0 hst;have CO:=hd0 hkl;have hc9:jF ((aO rows).take k)<=1000000000:=by omega
   generalize hcg:jF ((aO rows).take k)=cg at*
   have HCG:=hd0 hcg;by_cases ht:t=dY
   ·subst ht;cases l with
    |nil=>
     simp only[ln,aoc] at hkn;subst hkn;have xU:Hid (∀w1,Below wr.heap.size wr w1->alV w (aO rows) (k+1) w1):=fun w1 hb=>HST.out.skip CO.out hb (fun t=> .inl rfl)
     clear hst hkl hcg hrd hkr hLn htx hp hrm hcl;go_wp2_with fail
     go_roundw
     case rel=>exact⟨k+1,by omega,by simp,by rw[hcs.out];simp,xU.out _ (ant _ _)⟩
     case measure=>simp[intOf];omega
    |cons v l=>
     obtain⟨b2,o2,e',-,p2,hz2⟩:=hLn.word (k:=1) (t:=v) (by rw[htx];rfl) (d:=3) rfl;obtain⟨rfl,rfl⟩:b1=b2/\o1=o2:=by simpa using e'
     clear e';have hk2:(kr:Int)>1:=by rw[hkn];simp;omega
     have hlk0:=HST.out;cases hv:nameB v with
     |false=>
      have xU:Hid (∀w1,Below wr.heap.size wr w1->alV w (aO rows) (k+1) w1):=fun w1 hb=>HST.out.skip CO.out hb (fun t=> .inl (by
       rw[iY,if_pos rfl,yA];simp[hv,bf]))
      have hkk:1<kr:=by omega
      clear hst hkl hcg hrd hkr hLn htx hp hrm hcl hlk0 hkn;go_wp2_with (go_at_call 72;refine(zk _ v).mono ?_;rintro e w1 ⟨rfl,dB⟩;rw[hv];have Rx:=hd0 dB;clear dB)
      go_roundw
      case rel=>exact⟨k+1,by omega,by simp,by rw[hcs.out];simp,xU.out _ Rx.out⟩
      case measure=>simp[intOf];omega
     |true=>
      have HV:=hd0 hv;have hkk:1<kr:=by omega
      have adC:∀w1,Below wr.heap.size wr w1->akW mi w1 w.heap.size (gF (bf 0 ((aO rows).take k))):=fun w1 hb=>HST.out.1.below hb
      cases hx:(bf 0 ((aO rows).take k)).lookup v with
      |none=>
       have hf0:gF (bf 0 ((aO rows).take k)) v=none:=by unfold gF;rw[hx];rfl
       have HX:=hd0 hx;have HF0:=hd0 hf0;clear hst hkl hrd hkr hLn htx hp hrm hcl hlk0 hkn hx hf0 hv;go_wp2_with (go_at_call 72;refine(zk _ v).mono ?_;rintro e w1 ⟨rfl,dB⟩;rw[HV.out];have Rx:=hd0 dB;have p2':=((aj dB).1 _ _ hb1).trans p2;have sK:=adC w1 dB;have hlk:=sK.al4 Tryz.underlying112 Tryz.underlying9 (LM w1) v;rw[HF0.out] at hlk;obtain⟨w2,hput,hm2,hg2⟩:=sK.put Tryz.underlying112 Tryz.underlying9 v (.int .i64 (cg:Nat)) HF0.out;have aaY:(Instr.mapUpdate 112 (.map (some w.heap.size)) (.string ⟨v.toArray⟩) (.int .i64 (cg:Nat))).run Tryz.prog w1= .ok () w2:=hput;have hlk2:(Instr.lookup 112 (.map (some w.heap.size)) (.string ⟨v.toArray⟩) true).run Tryz.prog w1= .ok (.tuple #[.int .i64 0,.bool false]) w1:=hlk;have sW:=hd0 hm2;have HG2:=hd0 hg2;clear dB sK hlk hput hm2 hg2)
       go_roundw
       case rel=>refine⟨k+1,by omega,by simp,by rw[hcs.out];simp,?_⟩;refine alV.put (wr:=w1) (L:=aO rows) (k:=k) ⟨HST.out.1.below Rx.out,HST.out.2.trans (Rx.out.mono HST.out.2.size)⟩ CO.out HV.out HX.out ?_ HG2.out;rw[HCG.out];exact sW.out
       case measure=>simp[intOf];omega
      |some m=>
       have hf0:gF (bf 0 ((aO rows).take k)) v=some (.int .i64 (m:Nat)):=by unfold gF;rw[hx];rfl
       have HF0:=hd0 hf0;have xU:Hid (∀w1,Below wr.heap.size wr w1->alV w (aO rows) (k+1) w1):=fun w1 hb=>HST.out.skip CO.out hb (fun x=>by
        rw[iY,if_pos rfl,yA];by_cases hxv:x=v
        ·subst hxv;exact .inr (by rw[hx];rfl)
        refine .inl ?_;have hb:(x==v)=false:=by simpa using hxv
        simp[HV.out,bf,List.lookup,hb])
       clear hst hkl hrd hkr hLn htx hp hrm hcl hlk0 hkn hx hf0 hv;go_wp2_with (go_at_call 72;refine(zk _ v).mono ?_;rintro e w1 ⟨rfl,dB⟩;rw[HV.out];have Rx:=hd0 dB;have p2':=((aj dB).1 _ _ hb1).trans p2;have sK:=adC w1 dB;have hlk:=sK.al4 Tryz.underlying112 Tryz.underlying9 (LM w1) v;rw[HF0.out] at hlk;have hlk2:(Instr.lookup 112 (.map (some w.heap.size)) (.string ⟨v.toArray⟩) true).run Tryz.prog w1= .ok (.tuple #[.int .i64 (m:Nat),.bool true]) w1:=hlk;clear dB sK hlk)
       go_roundw
       case rel=>exact⟨k+1,by omega,by simp,by rw[hcs.out];simp,xU.out _ Rx.out⟩
       case measure=>simp[intOf];omega
   have e1:(t==[103,108,121,112,104])=false:=by simpa using ht
   have e2:(t !=[103,108,121,112,104])=true:=by simpa using ht
   have hk0:0<kr:=by omega
   have xU:Hid (∀w1,Below wr.heap.size wr w1->alV w (aO rows) (k+1) w1):=fun w1 hb=>HST.out.skip CO.out hb (fun x=> .inl (by rw[iY,if_neg ht];rfl))
   have HT:=hd0 ht;clear hst hkl hcg hrd hkr hLn htx hp hrm hcl ht hkn;go_wp2_with fail
   go_roundw
   case rel=>exact⟨k+1,by omega,by simp,by rw[hcs.out,if_neg HT.out],xU.out _ (ant _ _)⟩
   case measure=>simp[intOf];omega
  obtain rfl:k=n:=by omega
  have hfin:akW mi wr w.heap.size (gF (bf 0 (aO rows))):=by
   have:=hst.1
   rwa [anN (by rw[hrl.out];exact af _)] at this
  have HF:=hd0 hfin;have J5:=hd0 hst.2;clear hfin hst;go_wp2_with fail
  go_ret
  exact⟨_,rfl,af _,HF.out,J5.out⟩
attribute [-go_sem] Builtin.append_
abbrev EI:TypeId:=119
abbrev tWr:TypeId:=211
def alX (w1:World)(rows:List (List P3))(vs:List Value)(k:Nat)(wr:World):Prop:=
 ∃hs:List Value,hs.length=3/\Bk wr w1.heap.size iR vs.toArray/\Bk wr (w1.heap.size+1) tWr hs.toArray/\RowsIn dZ wr vs rows/\Below w1.heap.size w1 wr/\
  ∀(j:Nat) (r:List P3),j<k->rows[j]? =some r->∃S A c hj,jb r=some S/\hs[j]? =some (.slice A S.length c)/\RdT wr EI A S.length 1 hj/\RowsIn dZ wr hj S
theorem zD {w:World}{hs:List Value}{rows:List (List P3)}(h:RowsIn dZ w hs rows){g:Nat}{t:TypeId}{cs:Array Value}(hb:Bk w g t cs)(hne:dZ≠t)(i:Nat)(u:Value):RowsIn dZ (w.setCell ⟨g,i,none⟩ u) hs rows:=h.kept fun _ _ _ hr=>hr.ami hb hne i u
theorem alX.start {w1:World}{rows:List (List P3)}{a b c d:Value}(hin:RowsIn dZ w1 [a,b,c,d] rows):alX w1 rows [a,b,c,d] 0 ((w1.alloc (.cells #[a,b,c,d] iR)).alloc (.cells #[.slice none 0 0,.slice none 0 0,.slice none 0 0] tWr)):=by have h1:Bk (w1.alloc (.cells #[a,b,c,d] iR)) w1.heap.size iR #[a,b,c,d]:=Bk.new _ _ _;refine⟨[.slice none 0 0,.slice none 0 0,.slice none 0 0],rfl,h1.alloc _,?_,(hin.alloc _).alloc _,((ant _ _).alloc (af _) _).alloc (by simp) _,fun j r h=>by omega⟩;have:=Bk.new (w1.alloc (.cells #[a,b,c,d] iR)) tWr #[.slice none 0 0,.slice none 0 0,.slice none 0 0];simpa using this
theorem alX.next {w1 wr w2:World}{rows:List (List P3)}{vs:List Value}{k:Nat}{r:List P3}{S:List (List P3)}{v:Value}(h:alX w1 rows vs k wr)(hk:k<3)(hr:rows[k]? =some r)(hS:jb r=some S)(hret:wu dZ EI wr w2 S v):alX w1 rows vs (k+1) (w2.setCell ⟨w1.heap.size+1,k,none⟩ v):=by
 obtain⟨hs,l3,b1,b2,hin,hb,hj⟩:=h;obtain⟨A,c,h9,rfl,q1,q2,q3⟩:=hret;have b1':=b1.keep (q3.block _ b1.lt);have b2':=b2.keep (q3.block _ b2.lt);refine⟨hs.set k (.slice A S.length c),by simp[l3],Bk.far b1' (by simp) _,?_,zD (hin.below q3) b2' (by decide) _ _,(hb.trans (q3.mono hb.size)).setCell (by simp) _,fun j r' hlt hr'=> ?_⟩
 ·have:=b2'.set k (.slice A S.length c);simpa using this
 by_cases hjk:j=k
 ·subst hjk;rw[hr] at hr';cases hr';exact⟨S,A,c,h9,hS,by rw[List.getElem?_set_self (by omega)],q1.ami b2' (by decide) _ _,zD q2 b2' (by decide) _ _⟩
 obtain⟨S',A',c',hj',e1,e2,e3,e4⟩:=hj j r' (by omega) hr';exact⟨S',A',c',hj',e1,by rw[List.getElem?_set_ne (fun e=>hjk e.symm)];exact e2,(e3.below q3).ami b2' (by decide) _ _,zD (e4.below q3) b2' (by decide) _ _⟩
theorem Uw (gl:Gl)(s:PS){l:List B}{init:List Lookup}{lk:Lookup}(hs:s.f.akK=init++[lk])(h:pM l=none):fF gl s l= .error 22:=by unfold fF;rw[hs,List.getLast?_append];simp only[List.getLast?_singleton,Option.some_or];rw[h]
theorem Ui (gl:Gl)(s:PS){l:List B}{init:List Lookup}{lk:Lookup}(hs:s.f.akK=init++[lk]){p0 p1 p2 p3:List B}(h:pM l=some [p0,p1,p2,p3])(hn:eP p0=none\/eP p1=none\/eP p2=none):fF gl s l= .error 22:=by
 unfold fF;rw[hs,List.getLast?_append];simp only[List.getLast?_singleton,Option.some_or];rw[h];simp only;rcases hn with h|h|h
 ·rw[h]
 ·rw[h];cases eP p0<;>rfl
 rw[h];cases eP p0<;>cases eP p1<;>rfl
theorem Gx (s:PS)(h:Lookup->Lookup){init:List Lookup}{lk:Lookup}(hs:s.f.akK=init++[lk]):lV s h= {s with f:= {s.f with akK:=init++[h lk]}} :=by unfold lV;rw[hs,List.dropLast_concat,List.getLast?_append];rfl
end
section
open Go.RowKit
theorem VE {w:World}{rv:Rows}:∀b,Fz w rv b->Dt w b:=fun b ⟨cs,t,h1,h2,_⟩=>⟨cs,t,h1,h2⟩
theorem adQ {w:World}{Bd:Nat}{rv:Rows}(h:Live w Bd rv){j:Nat}(hj:j<15):∀g,(rv j).v.ownBlock=some g->Dt w g:=fun g hg=>by
 obtain⟨cur,hb⟩:=bg (h.own j hj) hg;exact⟨cur,_,hb,vX j⟩
theorem Live.fin {α:Type}{R:Rel α}(ok:R.Ok){w:World}{Bd:Nat}{rv:Rows}(h:Live w Bd rv){j:Nat}(hj:j<15){size:Nat}(hs:kS j=size){xs:List α}(hn:(rv j).n=xs.length)(hf:Fl R size w (Dt w) (rv j).xs xs):∃A c,(rv j).v= .slice A xs.length c/\Sl R size w (Dt w) A xs:=by obtain⟨A,c,hv⟩:=gY (h.own j hj);have ho:=h.own j hj;have hd:=adQ h hj;rw[hv] at ho hd;refine⟨A,c,by rw[hv,hn],?_⟩;subst hs;exact Sl.aly ho hf hd (WV j)
theorem Live.ama {α:Type}{R:Rel α}(ok:R.Ok){w:World}{Bd:Nat}{rv:Rows}(h:Live w Bd rv){j:Nat}(hj:j<15){size:Nat}(hs:kS j=size){xs:List α}(hf:ald R size w (Fz w rv) (rv j) xs):∃A c,(rv j).v= .slice A xs.length c/\Sl R size w (Dt w) A xs:=h.fin ok hj hs hf.1 (hf.2.mono ok VE)
theorem PSt.done {w:World}{Bd p gm cm:Nat}{gl:Gl}{s:PS}{rv:Rows}{K:Nat}(h:PSt w Bd p gm cm gl s rv K):aln w (Dt w) [.int .i64 s.f.unit,(rv 0).v,(rv 1).v,(rv 2).v,(rv 3).v,(rv 4).v,(rv 5).v,(rv 6).v,(rv 7).v] s.f:=by
 have hl:=h.live;obtain⟨A0,c0,e0,f0⟩:=hl.fin akQ.ok (j:=0) (by decide) rfl h.fnt.gly.1 ((GlD.told hl h.fnt.gly).mono akQ.ok VE);obtain⟨A1,c1,e1,f1⟩:=hl.ama alm.ok (j:=1) (by decide) rfl h.fnt.chr;have hlk:Fl akS 3 w (Dt w) (rv 2).xs s.f.akK:=by
  rcases h.fnt.lks.2 with⟨g1,g2⟩|⟨init,l,ci,g1,g2,g3,g4,g5⟩
  ·rw[g1,g2];exact Fl.nil
  obtain⟨A,c,e,f⟩:=hl.ama ak3.ok (j:=14) (by decide) rfl g5;rw[g1,g2,e];exact(g4.mono akS.ok VE).append (Fl.one (R:=akS) ⟨A,c,rfl,g3,f⟩ rfl)
 obtain⟨A2,c2,e2,f2⟩:=hl.fin akS.ok (j:=2) (by decide) rfl h.fnt.lks.1 hlk;obtain⟨A3,c3,e3,f3⟩:=hl.ama akR.ok (j:=3) (by decide) rfl h.fnt.fts;obtain⟨A4,c4,e4,f4⟩:=hl.ama ale.ok (j:=4) (by decide) rfl h.fnt.axs;obtain⟨A5,c5,e5,f5⟩:=hl.ama akU.ok (j:=5) (by decide) rfl h.fnt.rgs;obtain⟨A6,c6,e6,f6⟩:=hl.ama ak6.ok (j:=6) (by decide) rfl h.fnt.fns;obtain⟨A7,c7,e7,f7⟩:=hl.ama akL.ok (j:=7) (by decide) rfl h.fnt.cvt;rw[e0,e1,e2,e3,e4,e5,e6,e7];exact⟨A0,c0,A1,c1,A2,c2,A3,c3,A4,c4,A5,c5,A6,c6,A7,c7,rfl,h.fnt.unit,f0,f1,f2,f3,f4,f5,f6,f7⟩
def GK:Rows:=fun _=>RV.nil
theorem Live.start (w:World)(Bd:Nat):Live w Bd GK:=⟨fun j _=>World.ownsRow_nil w Bd _ _,fun i j _ _ _ g h=>by cases h⟩
theorem FD.start (w:World)(S:Bs):FD w S GK f0:={unit:=⟨by decide,by decide⟩,gly:=⟨rfl,.inl ⟨rfl,rfl⟩⟩,chr:=ald.nil _ _ _ _,lks:=⟨rfl,.inl ⟨rfl,rfl⟩⟩,fts:=ald.nil _ _ _ _,axs:=ald.nil _ _ _ _,rgs:=ald.nil _ _ _ _,fns:=ald.nil _ _ _ _,cvt:=ald.nil _ _ _ _}
theorem PSt.start {w:World}{Bd p gm cm:Nat}{gl:Gl}(hp:Bk w p jy (dW ps0 GK gm cm))(hg:akW mi w gm (gF gl))(hc:akW mi w cm (fun _=>none))(hI:∀t n,gl.lookup t=some n->n<=1000000000)(hB:Bd<=p/\Bd<=gm/\Bd<=cm/\gm≠cm):PSt w Bd p gm cm gl ps0 GK 0:={par:=hp,live:=Live.start _ _,fnt:=FD.start _ _,gmp:=hg,glI:=hI,cls:=⟨_,hc,fun t=> .inl ⟨rfl,rfl⟩⟩,few:=fun j _=>af _,low:=hB}
def tot (l:List (List Wd)):Nat:=(l.map List.length).sum
theorem aan (ps:List B)(n:Nat):tot (bJ n ps)<=(ps.map List.length).sum:=by
 induction ps generalizing n with
 |nil=>exact af _
 |cons p ps ih=>
  have h1:=ih (n+1);have h2:=Rh p;unfold tot at h1 ⊢;rw[bJ];split
  ·simp only[an6,anE,aod];omega
  simp only[an7,anE,aoi,List.sum_append,aod,List.sum_nil,Dy];omega
theorem abL (s:B):((gW s).map List.length).sum<=s.length:=by
 induction s with
 |nil=>exact af _
 |cons c r ih=>
  rw[gW];split
  ·simp only[anE,aod,ln,aT];omega
  cases hp:gW r with
  |nil=>exact absurd hp (NR r)
  |cons p ps=>rw[hp] at ih;simp only[anE,aod,aT] at ih ⊢;omega
theorem YD (s:B):tot (gB s)<=s.length:=nt (aan _ _) (abL s)
theorem aaw (L:List (List Wd))(k:Nat)(r:List Wd)(h:L[k]? =some r):tot (L.take k)+r.length<=tot L/\tot (L.take (k+1))=tot (L.take k)+r.length:=by
 have hk:=(anv.1 h).1;have e:L.take (k+1)=L.take k++[r]:=by rw[aob,h];rfl
 have e2:tot (L.take (k+1))=tot (L.take k)+r.length:=by unfold tot;rw[e];simp
 refine⟨?_,e2⟩;have:tot L=tot (L.take (k+1))+tot (L.drop (k+1)):=by
  unfold tot
  conv=>lhs;rw[<-an1 (k+1) L]
  rw[an7,List.sum_append]
 omega
theorem Pn (s:B):∀r∈gB s,r≠[]:=by
 unfold gB;generalize 1=n;induction gW s generalizing n with
 |nil=>intro r hr;simp[bJ] at hr
 |cons p ps ih=>
  intro r hr;rw[bJ,anz] at hr;rcases hr with hr|hr
  ·split at hr
   ·simp at hr
   rename_i h;simp only[anu] at hr;subst hr;simpa [num] using h
  exact ih _ r hr
theorem Xm (s:B):(gB s).length<=s.length+1:=by have h1:=AV 1 (gW s);have h2:=WH s;have h3:s.count 10<=s.length:=List.count_le_length;unfold gB;omega
theorem zC {gl:Gl}{L:List (Int×List B)}{k:Nat}{no:Int}{l:List B}{s:PS}(h:stmts gl ps0 (L.take k)= .ok s)(hk:L[k]? =some (no,l)):stmts gl ps0 (L.take (k+1))=(match stmt gl s l with| .ok s'=> .ok s'| .error e=> .error (no,e)):=by rw[aob,hk,Option.toList_some,Cb,h];simp only[stmts];cases stmt gl s l<;>rfl
theorem WN {gl:Gl}{L:List (Int×List B)}{k:Nat}{no e:Int}{l:List B}{s:PS}(h:stmts gl ps0 (L.take k)= .ok s)(hk:L[k]? =some (no,l))(he:stmt gl s l= .error e):stmts gl ps0 L= .error (no,e):=by
 have h1:=zC h hk;rw[he] at h1
 conv=>lhs;rw[<-an1 (k+1) L]
 rw[Cb,h1]
end
section
theorem Jk (gl:Gl)(cls:List (B×List Int))(er:Int)(he:er≠0)(l:List (List B)):(aN gl cls er l).1=er:=by
 suffices h:∀acc,(l.foldl (fun q x=>((aY gl cls q.1 [] x).1,q.2++[(aY gl cls q.1 [] x).2])) ((er,acc):Int×List (List Int))).1=er from h []
 induction l with
 |nil=>intro acc;rfl
 |cons x r ih=>intro acc;rw[anW];simp only;rw[G5 gl cls er he];exact ih _
theorem Fa (gl:Gl)(cls:List (B×List Int))(l:List (List B)):(∃e,kW gl cls l= .error e/\e≠0/\(aN gl cls 0 l).1=e)\/(∃xs,kW gl cls l= .ok xs/\aN gl cls 0 l=(0,xs)):=by
 suffices h:∀acc:List (List Int),(∃e,kW gl cls l= .error e/\e≠0/\(l.foldl (fun q x=>((aY gl cls q.1 [] x).1,q.2++[(aY gl cls q.1 [] x).2])) ((0,acc):Int×List (List Int))).1=e)\/(∃xs,kW gl cls l= .ok xs/\l.foldl (fun q x=>((aY gl cls q.1 [] x).1,q.2++[(aY gl cls q.1 [] x).2])) ((0,acc):Int×List (List Int))=(0,acc++xs)) from h []
 induction l with
 |nil=>intro acc;exact .inr ⟨[],rfl,by simp⟩
 |cons x r ih=>
  intro acc;rw[anW,kW];simp only;rcases Dc gl cls [] x (by simp) with⟨e,h1,h2,h3⟩|⟨g,h1,h2,-⟩
  ·rw[h1,h3];refine .inl ⟨e,rfl,h2,?_⟩
   suffices h:∀acc,(r.foldl (fun q x=>((aY gl cls q.1 [] x).1,q.2++[(aY gl cls q.1 [] x).2])) ((e,acc):Int×List (List Int))).1=e from h _
   intro acc;clear ih;induction r generalizing acc with
   |nil=>rfl
   |cons y r ih=>rw[anW];simp only;rw[G5 gl cls e h2];exact ih _
  rw[h1,h2];simp only;rcases ih (acc++[g]) with⟨e,k1,k2,k3⟩|⟨xs,k1,k2⟩
  ·rw[k1];exact .inl ⟨e,rfl,k2,k3⟩
  rw[k1];exact .inr ⟨g::xs,rfl,by rw[k2];simp⟩
def kN (gl:Gl)(kind e:Int)(p3:List B):Int:=if kind=1\/kind=2\/kind=3\/kind=5 then uf gl e p3 else if kind=4 then p3.foldl mg e else if kind=6 then fD e p3 else e
theorem abo (gl:Gl)(e:Int)(he:e≠0)(l:List B):uf gl e l=e:=by
 induction l with
 |nil=>rfl
 |cons x r ih=>
  show(x::r).foldl (jM gl) e=e;rw[anW];have:jM gl e x=e:=by unfold jM;rw[if_neg (fun h=>he h.1)]
  rw[this];exact ih
theorem Jo (e:Int)(he:e≠0)(t:B):aK e t=e:=by unfold aK;rw[if_neg (fun h=>he h.1)]
theorem aaK (e:Int)(he:e≠0)(l:List B):fD e l=e:=by
 induction l with
 |nil=>rfl
 |cons x r ih=>show(x::r).foldl aK e=e;rw[anW,Jo e he];exact ih
theorem Yi (e:Int)(he:e≠0)(l:List B):l.foldl mg e=e:=by
 induction l with
 |nil=>rfl
 |cons x r ih=>
  rw[anW];have:mg e x=e:=by unfold mg;rw[Jo e he,Jo e he]
  rw[this];exact ih
theorem Pv (gl:Gl)(kind e:Int)(he:e≠0)(p3:List B):kN gl kind e p3=e:=by
 unfold kN;split
 ·exact abo gl e he p3
 split
 ·exact Yi e he p3
 split
 ·exact aaK e he p3
 rfl
def dw (gl:Gl)(kind:Int)(b i a:List (List Int))(p3:List B):als:=⟨b.map setOf,i.map setOf,a.map setOf,if kind=1\/kind=2\/kind=3\/kind=5 then p3.map (fP gl) else [],if kind=4 then p3.map kZ else [],if kind=6 then aI (p3.headD []) else 0⟩
def yT (s:PS)(kind:Int)(i:List (List Int))(r:als):Ans:=
 if kind=1\/kind=5 then(match fE (i.headD []) r.out with
  | .error e=> .error e
  | .ok o=> .ok (lV s fun lk=> {lk with rules:=lk.rules++[{r with out:=o}]}))
 else .ok (lV s fun lk=> {lk with rules:=lk.rules++[r]})
theorem VO (gl:Gl)(s:PS){l:List B}{init:List Lookup}{lk:Lookup}(hs:s.f.akK=init++[lk]){p0 p1 p2 p3:List B}(h:pM l=some [p0,p1,p2,p3]){T0 T1 T2:List (List B)}(h0:eP p0=some T0)(h1:eP p1=some T1)(h2:eP p2=some T2)(hok:¬((lk.kind=1\/lk.kind=5)/\T1.length≠1))(hok2:eu lk.kind p3=true):
  let q0:=aN gl s.cls 0 T0
  let q1:=aN gl s.cls q0.1 T1
  let q2:=aN gl s.cls q1.1 T2
  let e4:=kN gl lk.kind q2.1 p3
  fF gl s l=if e4≠0 then .error e4 else yT s lk.kind q1.2 (dw gl lk.kind q0.2 q1.2 q2.2 p3):=by
 intro q0 q1 q2 e4;unfold fF;rw[hs,List.getLast?_append];simp only[List.getLast?_singleton,Option.some_or];rw[h];simp only;rw[h0,h1,h2];simp only;rw[if_neg hok,if_neg (by rw[hok2];simp)];rcases Fa gl s.cls T0 with⟨e,k1,k2,k3⟩|⟨xs,k1,k3⟩
 ·have a1:q1.1=e:=by show(aN gl s.cls (aN gl s.cls 0 T0).1 T1).1=e;rw[k3,Jk _ _ _ k2]
  have a2:q2.1=e:=by show(aN gl s.cls q1.1 T2).1=e;rw[a1,Jk _ _ _ k2]
  have a3:e4=e:=by show kN gl lk.kind q2.1 p3=e;rw[a2,Pv _ _ _ k2]
  rw[k1,a3,if_pos k2]
 have b0:q0=(0,xs):=k3;have b1:q1=aN gl s.cls 0 T1:=by show aN gl s.cls q0.1 T1=_;rw[b0]
 rw[k1];simp only;rcases Fa gl s.cls T1 with⟨e,m1,m2,m3⟩|⟨ys,m1,m3⟩
 ·have a1:q1.1=e:=by rw[b1,m3]
  have a2:q2.1=e:=by show(aN gl s.cls q1.1 T2).1=e;rw[a1,Jk _ _ _ m2]
  have a3:e4=e:=by show kN gl lk.kind q2.1 p3=e;rw[a2,Pv _ _ _ m2]
  rw[m1,a3,if_pos m2]
 have c1:q1=(0,ys):=by rw[b1,m3]
 have c2:q2=aN gl s.cls 0 T2:=by show aN gl s.cls q1.1 T2=_;rw[c1]
 rw[m1];simp only;rcases Fa gl s.cls T2 with⟨e,n1,n2,n3⟩|⟨zs,n1,n3⟩
 ·have a2:q2.1=e:=by rw[c2,n3]
  have a3:e4=e:=by show kN gl lk.kind q2.1 p3=e;rw[a2,Pv _ _ _ n2]
  rw[n1,a3,if_pos n2]
 have c3:q2=(0,zs):=by rw[c2,n3]
 rw[n1];have he4:e4=kN gl lk.kind 0 p3:=by show kN gl lk.kind q2.1 p3=_;rw[c3]
 rw[he4,b0,c1,c3];rfl
end
section
open Go.RowKit
theorem EE (gl:Gl)(cls:List (B×List Int))(Q:List Int->Prop)(hQ:∀er l,Q (aY gl cls er [] l).2)(er:Int)(l:List (List B)):∀r∈(aN gl cls er l).2,Q r:=by
 suffices h:∀q:Int×List (List Int),(∀r∈q.2,Q r)->∀r∈(l.foldl (fun q x=>((aY gl cls q.1 [] x).1,q.2++[(aY gl cls q.1 [] x).2])) q).2,Q r from h (er,[]) (fun r hr=>by simp at hr)
 induction l with
 |nil=>intro q hq;exact hq
 |cons x r ih=>
  intro q hq;rw[anW];refine ih _ fun y hy=> ?_
  rcases anz.1 hy with g|g
  ·exact hq y g
  simp only[anu] at g;subst g;exact hQ _ _
theorem acr (gl:Gl)(cls:List (B×List Int))(hc:∀t l,cls.lookup t=some l->l.length<=2000)(er:Int)(acc:List Int)(ha:acc.length<=1000)(l:List B):(aY gl cls er acc l).2.length<=3001:=by
 have hw:∀er acc t,acc.length<=1000->(ik gl cls er acc t).2.length<=3001:=by
  intro er acc t ha;unfold ik;split
  ·split
   ·rename_i c hcl;have:=hc _ _ hcl;show(acc++c).length<=_;rw[la];omega
   show acc.length<=_;omega
  show(acc++[_]).length<=_;rw[la,List.length_singleton];omega
 induction l generalizing er acc with
 |nil=>exact nt ha (by omega)
 |cons t r ih=>
  rw[aY];split
  ·exact hw er acc t ha
  split
  ·exact hw er acc t ha
  rename_i h1 h2;exact ih _ _ (by omega)
theorem PSt.anr {w:World}{Bd p gm cm:Nat}{gl:Gl}{s:PS}{rv:Rows}{K:Nat}(h:PSt w Bd p gm cm gl s rv K):∀t l,s.cls.lookup t=some l->l.length<=2000:=by
 intro t l hl;obtain⟨f,h1,h2⟩:=h.cls;rcases h2 t with⟨g,_⟩|⟨l',A,c,e1,e2,e3,e4⟩
 ·rw[g] at hl;cases hl
 rw[e1] at hl;cases hl;exact e4
structure alp (base:Nat)(A:Option Addr)(n:Nat)(hs:List Value)(xs:List (List Int))(w:World):Prop where
 rd:RdT w 22 A n 1 hs
 fl:Fl akM 1 w (IB base w) hs xs
theorem alp.mk' {w:World}{b2 base:Nat}{A:Option Addr}{n c:Nat}{hs:List Value}{xs:List (List Int)}(ho:w.ownsRow b2 22 1 (.slice A n c) n hs)(hf:Fl akM 1 w (IB base w) hs xs):alp base A n hs xs w:=⟨jl ho,hf⟩
theorem alp.reader {base:Nat}{A:Option Addr}{n:Nat}{hs:List Value}{xs:List (List Int)}{w w':World}{rb p:Nat}{er:Int}(h:alp base A n hs xs w)(hr:Rdr w rb p er)(hg:w.grownBy w' (some rb)):alp base A n hs xs w':=⟨h.rd.grown hg (fun g e=>by cases e;exact⟨_,_,hr,by decide⟩),h.fl.ib hg (fun g e=>by cases e;exact⟨_,_,hr,by decide⟩)⟩
theorem alp.below {base:Nat}{A:Option Addr}{n:Nat}{hs:List Value}{xs:List (List Int)}{w w':World}(h:alp base A n hs xs w)(hb:Below w.heap.size w w'):alp base A n hs xs w':=⟨h.rd.below hb,h.fl.ib (aB hb none) (fun g e=>by cases e)⟩
theorem alp.sets {base:Nat}{A:Option Addr}{n c:Nat}{hs:List Value}{xs:List (List Int)}{w:World}(h:alp base A n hs xs w)(hn:n<=1000000000)(hl:∀r∈xs,r.length<=1000000000)(hI:∀r∈xs,∀x∈r,I64 x):
  Calls Tryz.prog 137 #[.slice A n c] w fun e w'=>∃v,e= .returned v/\al2 w n (xs.map setOf) v w':=
 VY w A n c xs hs h.rd h.fl (fun b hb=>by obtain⟨-,cur,hk⟩:=hb;exact hk.lt) hn hl hI
theorem alp.first {base:Nat}{A:Option Addr}{n:Nat}{hs:List Value}{x:List Int}{xs:List (List Int)}{w:World}(h:alp base A n hs (x::xs) w)(hn:0<n):∃b o A' c',A=some ⟨b,o,none⟩/\b<w.heap.size/\w.cell? ⟨b,o,none⟩=some (.slice A' x.length c')/\Rd w w.heap.size A' x.length 1 (aH x):=by obtain⟨b,o,cur,e,hb,hc⟩:=h.rd.2 hn;obtain⟨A',c',h0,hsl⟩:=RZ h.fl (k:=0) (r:=x) rfl;exact⟨b,o,A',c',e,hb.lt,(hb.cell o).trans (hc 0 _ h0),Vh hsl (fun b hb=>by obtain⟨-,cur,hk⟩:=hb;exact hk.lt)⟩
theorem PSt.ib {w w2:World}{Bd p gm cm:Nat}{gl:Gl}{s:PS}{rv:Rows}{K:Nat}(h:PSt w Bd p gm cm gl s rv K){base:Nat}(hb:w.heap.size<=base):∀g,IB base w2 g->Fz w2 rv g:=by rintro g ⟨h1,cur,hk⟩;refine⟨cur,_,hk,by decide,fun j hj e'=> ?_⟩;have:=((h.live.own j hj).lt g e').2;omega
theorem out_ok (w:World)(C rb p gm:Nat)(gl:Gl)(kind err:Int)(v0 v1 v2:Value)(A:Option Addr)(n c:Nat)(ws:List P3)(hC:Bk w C mF #[v0,v1,v2,.slice none 0 0,.slice none 0 0,.int .i64 0])(hR:Rdr w rb p err)(hG:al0 w p gm gl)
  (hp:p<w.heap.size) (p1:p≠rb) (p2:p≠C) (p3:gm≠rb) (p4:gm≠C) (hw:RdT w dZ A n 3 (dD ws)) (hl:∀x∈ws,x.2.2.length<=100000000) (hn:n<=1000000000) (hok:eu kind (ag ws)=true) (b i a:List (List Int)):
  Calls Tryz.prog 138 #[.pointer (some ⟨rb,0,none⟩),.int .i64 kind,.slice A n c,.pointer (some ⟨C,0,none⟩)] w fun e w'=>e= .returned (.tuple #[])/\alT w C rb p v0 v1 v2 (kN gl kind err (ag ws)) (dw gl kind b i a (ag ws)).out (dw gl kind b i a (ag ws)).calls (dw gl kind b i a (ag ws)).x w':=by
 unfold dw kN;simp only;by_cases h1:kind=1\/kind=2\/kind=3\/kind=5
 ·rw[if_pos h1,if_pos h1,if_neg (by omega),if_neg (by omega)];exact Yw w C rb p gm gl kind err v0 v1 v2 A n c ws h1 hC hR hG hp p1 p2 p3 p4 hw hn
 rw[if_neg h1,if_neg h1];by_cases h4:kind=4
 ·rw[if_pos h4,if_pos h4,if_neg (by omega)];subst h4;exact WL w C rb p err v0 v1 v2 A n c ws hC hR hw hl hn
 rw[if_neg h4,if_neg h4];by_cases h6:kind=6
 ·rw[if_pos h6,if_pos h6]
  unfold eu at hok;rw[if_neg h4,if_pos h6] at hok;obtain⟨t,ht⟩:∃t,ag ws=[t]:=by
   match ag ws,hok with
   |[t],_=>exact⟨t,rfl⟩
  subst h6;rw[ht];exact Zu w C rb p err v0 v1 v2 A n c ws hC hR hw hl ht
 rw[if_neg h6,if_neg h6];exact Y9 w C rb p kind err v0 v1 v2 A n c hC hR (by omega)
theorem uo {w w':World}{a b:Nat}(ht:Two w w' a b){ta tb e:TypeId}{ca cb:Array Value}(ha:Bk w a ta ca)(hb:Bk w b tb cb)(n1:e≠ta)(n2:e≠tb){base size n:Nat}{v:Value}{xs:List Value}(h:w.ownsRow base e size v n xs):w'.ownsRow base e size v n xs:=by
 refine⟨h.1,?_⟩;rcases h.2 with h0|⟨g,cap,cur,rfl,hg,hh,rest⟩
 ·exact .inl h0
 refine .inr ⟨g,cap,cur,rfl,hg,(ht.block g (anx.1 hh).1 (fun e'=> ?_) (fun e'=> ?_)).trans hh,rest⟩
 ·subst e';exact n1 (bU hh ha).1
 subst e';exact n2 (bU hh hb).1
theorem uN {w w':World}{a b:Nat}(ht:Two w w' a b){ta tb:TypeId}{ca cb:Array Value}(ha:Bk w a ta ca)(hb:Bk w b tb cb)(n1:3≠ta)(n2:3≠tb){base:Nat}{hs:List Value}{xs:List (List Int)}(h:Fl akM 1 w (IB base w) hs xs):Fl akM 1 w' (IB base w') hs xs:=by
 have hsame:Same (IB base w) w w':=fun g ⟨_,cur,hk⟩=>ht.block g hk.lt (fun e'=>by subst e';exact n1 (bU hk ha).1) (fun e'=>by subst e';exact n2 (bU hk hb).1)
 exact(h.keep akM.ok hsame).mono akM.ok fun g hg=>⟨hg.1,by obtain⟨cur,hk⟩:=hg.2;exact⟨cur,hk.keep (hsame g hg)⟩⟩
section
variable {w W:World} {Bd p gm cm:Nat} {gl:Gl} {s:PS} {rv:Rows} {K:Nat}
theorem Jt (h:PSt w Bd p gm cm gl s rv K){A:Option Addr}{n c b2 base:Nat}{hs:List Value}{xs:List (List Int)}(ho:W.ownsRow b2 22 1 (.slice A n c) n hs)(hf:Fl akM 1 W (IB base W) hs xs)(hb:w.heap.size<=b2)(hb2:w.heap.size<=base):Sl akM 1 W (Fz W rv) A xs:=Sl.aly ho (hf.mono akM.ok (h.ib hb2)) (h.fresh ho hb (by decide)) (by decide)
theorem abl (W:World)(S:Bs)(l:List Call)(h:∀x∈l,I64 x.at'/\I64 x.lookup):Fl alu 2 W S (sU l) l:=by
 induction l with
 |nil=>exact Fl.nil
 |cons x r ih=>obtain⟨h1,h2⟩:=h x (by simp);exact(Fl.one (R:=alu) ⟨rfl,h1,h2⟩ rfl).append (ih (fun y hy=>h y (by simp[hy])))
theorem Ou (h:PSt w Bd p gm cm gl s rv K){A0 A1 A2 Ao Ac:Option Addr}{c0 c1 c2 co cc b0 b1 b2 bo bc e0 e1 e2:Nat}{h0 h1 h2:List Value}{s0 s1 s2:List (List Int)}{out:List Int}{calls:List Call}{x:Int}
  (o0:W.ownsRow b0 22 1 (.slice A0 s0.length c0) s0.length h0) (f0:Fl akM 1 W (IB e0 W) h0 s0) (o1:W.ownsRow b1 22 1 (.slice A1 s1.length c1) s1.length h1) (f1:Fl akM 1 W (IB e1 W) h1 s1) (o2:W.ownsRow b2 22 1 (.slice A2 s2.length c2) s2.length h2) (f2:Fl akM 1 W (IB e2 W) h2 s2)
  (oo:W.ownsRow bo 3 1 (.slice Ao out.length co) out.length (aH out)) (oc:W.ownsRow bc 95 2 (.slice Ac calls.length cc) calls.length (sU calls)) (io:∀y∈out,I64 y) (ic:∀y∈calls,I64 y.at'/\I64 y.lookup) (ix:I64 x)
  (l0:w.heap.size<=b0) (l1:w.heap.size<=b1) (l2:w.heap.size<=b2) (lo:w.heap.size<=bo) (lc:w.heap.size<=bc) (m0:w.heap.size<=e0) (m1:w.heap.size<=e1) (m2:w.heap.size<=e2):
  ak3 W (Fz W rv) [.slice A0 s0.length c0,.slice A1 s1.length c1,.slice A2 s2.length c2,.slice Ao out.length co,.slice Ac calls.length cc,.int .i64 x] ⟨s0,s1,s2,out,calls,x⟩:=
 ⟨A0,c0,A1,c1,A2,c2,Ao,co,Ac,cc,rfl,ix,Jt h o0 f0 l0 m0,Jt h o1 f1 l1 m1,Jt h o2 f2 l2 m2,Sl.aly oo (Dj _ _ _ io) (h.fresh oo lo (by decide)) (by decide),Sl.aly oc (abl _ _ _ ic) (h.fresh oc lc (by decide)) (by decide)⟩
end
end
end Go.Proofs.YtkijckccfookeaaGreatDoor
