/- Lemmas. -/
import Derived.Test.YtkijckccfookeaaGreatDoorV32
set_option linter.unusedVariables false
set_option linter.unusedSimpArgs false
set_option maxRecDepth 100000
set_option maxHeartbeats 32000000
namespace Go.Proofs.YtkijckccfookeaaGreatDoor
section
open Go.RowKit
def jl:List (List B)->Nat
 |[]=>0
 |(w::_)::ls=>if w=dM then jl ls+1 else jl ls
 |[]::ls=>jl ls
theorem sS (w:B)(r:List B)(L:List (List B)):jl ((w::r)::L)=if w=dM then jl L+1 else jl L:=rfl
theorem CW (n:Nat)(a:List (List B))(l:List B):aP n (a++[l])=aP n a++aP (n+jl a) [l]:=by
 induction a generalizing n with
 |nil=>rfl
 |cons x a ih=>
  cases x with
  |nil=>exact ih n
  |cons w r=>
   rw[akC,iP,iP,sS];split
   ·rw[ih,aky,show n+1+jl a=n+(jl a+1) by omega]
   exact ih n
theorem Ux (a:List (List B))(w:B)(r:List B):jl (a++[w::r])=if w=dM then jl a+1 else jl a:=by
 induction a with
 |nil=>rfl
 |cons x a ih=>
  cases x with
  |nil=>exact ih
  |cons v q=>rw[akC,sS,sS,ih];split<;>split<;>rfl
theorem OX (a:List (List B)):jl a<=a.length:=by
 induction a with
 |nil=>exact nr _
 |cons x a ih=>
  cases x with
  |nil=>exact Nat.le_succ_of_le ih
  |cons w r=>rw[sS,aF];split<;>omega
def gF (gl:Gl):B->Option Value:=fun t=>(gl.lookup t).map fun n=> .int .i64 (n:Nat)
theorem Uc (n:Nat)(L:List (List B))(t:B)(m:Nat)(h:(aP n L).lookup t=some m):m<n+jl L:=by
 have key:∀(L:List (List B)) (n:Nat),∀x∈aP n L,x.2<n+jl L:=by
  intro L;induction L with
  |nil=>intro n x hx;simp[aP] at hx
  |cons l L ih=>
   intro n x hx;cases l with
   |nil=>exact ih n x hx
   |cons w r=>
    rw[iP] at hx;rw[sS];split at hx
    ·rename_i hw;rw[if_pos hw];rw[akq] at hx;rcases hx with hx|hx
     ·unfold wO at hx;split at hx
      ·split at hx
       ·simp only[akm] at hx;subst hx;simp only;omega
       simp at hx
      simp at hx
     have:=ih (n+1) x hx;omega
    rename_i hw;rw[if_neg hw];exact ih n x hx
 have hm:(t,m)∈aP n L:=by
  revert h
  generalize aP n L=G;intro h;induction G with
  |nil=>simp at h
  |cons a G ih=>
   obtain⟨x,y⟩:=a;rw[List.lookup] at h;split at h
   ·rename_i hb;have:t=x:=by simpa using hb
    subst this;injection h with h
    subst h;simp
   exact List.mem_cons_of_mem _ (ih h)
 exact key L n _ hm
theorem Ol {w wr:World}{A:Option Addr}{n k:Nat}{hs:List Value}{rows:List (List P3)}(hr:RdT w 119 A n 1 hs)(hin:RowsIn dW w hs rows)(hb:Below w.heap.size w wr)(hk:k<n):
  ∃b o r Ar kr cr,A=some ⟨b,o,none⟩/\Hid (rows[k]? =some r)/\b<wr.heap.size/\wr.cell? ⟨b,o+k,none⟩=some (.slice Ar kr cr)/\RdT wr dW Ar kr 3 (dA r)/\kr=r.length/\kr<=cr:=by
 have hr':=hr.below hb;have hin':=hin.below hb;obtain⟨b,o,cur,e,hbk,hc⟩:=hr'.2 (by omega);have hl:hs.length=n:=by have:=hr.1;omega
 have hk2:k<rows.length:=by rw[<-hin.1,hl];exact hk
 obtain⟨Ar,kr,cr,g1,g2,g3⟩:=hin'.2 k _ (ako hk2);exact⟨b,o,rows[k],Ar,kr,cr,e,ako hk2,hbk.lt,(hbk.cell _).trans (hc k _ g1),g2,g2.rd.aiE.symm,g3⟩
theorem acz (w:World):(Instr.makeMap 112 none).run Tryz.prog w= .ok (.map (some w.heap.size)) (w.alloc (.map #[] 0)):=by
 simp[Instr.makeMap,run_underlying Tryz.underlying112,Result.andThen,newObj,go_sem]
 try rfl
def aiS (w:World)(L:List (List B))(k:Nat)(wr:World):Prop:=ah0 lU wr w.heap.size (gF (aP 0 (L.take k)))/\Below w.heap.size w wr
theorem ZX {G H:Gl}(h:∀t,H.lookup t=G.lookup t):∀t,gF H t=gF G t:=fun t=>by unfold gF;rw[h]
theorem aiS.skip {w wr w1:World}{L:List (List B)}{k:Nat}{l:List B}(h:aiS w L k wr)(hk:L[k]? =some l)(hb:Below wr.heap.size wr w1)(hs:∀t,(aP (0+jl (L.take k)) [l]).lookup t=none\/((aP 0 (L.take k)).lookup t).isSome):aiS w L (k+1) w1:=by
 refine⟨(h.1.below hb).congr fun t=> ?_,h.2.trans (hb.mono h.2.size)⟩;refine ZX (fun t=> ?_) t;rw[ak2,hk,Option.toList_some,CW,List.lookup_append];rcases hs t with h|h
 ·rw[h,Option.or_none]
 cases hx:(aP 0 (L.take k)).lookup t with
 |none=>rw[hx] at h;cases h
 |some v=>rfl
theorem aiS.put {w wr w1:World}{L:List (List B)}{k:Nat}{v:B}{l:List B}(h:aiS w L k wr)(hk:L[k]? =some (dM::v::l))(hv:nameB v=true)(hn:(aP 0 (L.take k)).lookup v=none)
  (hm:ah0 lU w1 w.heap.size (fun t=>if t=v then some (.int .i64 (jl (L.take k):Nat)) else gF (aP 0 (L.take k)) t)) (hg:wr.grownBy w1 (some w.heap.size)):aiS w L (k+1) w1:=by
 refine⟨hm.congr fun t=> ?_,h.2.grown hg h.2.size (fun k e=>by cases e;exact nr _)⟩;unfold gF;rw[ak2,hk,Option.toList_some,CW,List.lookup_append];have e1:aP (0+jl (L.take k)) [dM::v::l]=[(v,jl (L.take k))]:=by rw[iP,if_pos rfl,wO];simp[hv,aP]
 rw[e1];by_cases ht:t=v
 ·subst ht;rw[if_pos rfl,hn];simp[List.lookup]
 have hb:(t==v)=false:=by simpa using ht
 rw[if_neg ht,List.lookup,hb];simp
theorem I9 (w:World)(A:Option Addr)(n c:Nat)(rows:List (List P3))(hs:List Value)(hr:RdT w 119 A n 1 hs)(hin:RowsIn dW w hs rows)(hn:n<=1000000000)(hne:∀r∈rows,r≠[])(hl:∀r∈rows,r.length<=1000000000/\∀x∈r,x.2.2.length<=800000000):
  Calls Tryz.prog 39 #[.slice A n c] w fun e w'=>∃M,e= .returned (.map (some M))/\w.heap.size<=M/\ah0 lU w' M (gF (aP 0 (aJ rows)))/\Below w.heap.size w w':=by
 have hlen:hs.length=n:=by have:=hr.1;omega
 have hrl:=hd0 (show(aJ rows).length=n by unfold aJ;rw[aks,<-hin.1];exact hlen);have HW:=hd0 hr;have Ud:=hd0 hin;have HL:=hd0 hl;have HNE:=hd0 hne;have hmk:=acz w;clear hr hin hl hne hlen;go_enter Tryz.func39,Tryz.ntmps39
 go_wp2_with fail
 clear hmk;go_loopw [4,12] (fun cnt i wr=>∃k:Nat,k<=n/\i= .int .i64 k/\cnt= .int .i64 (jl ((aJ rows).take k):Nat)/\aiS w (aJ rows) k wr) (fun _ i _=>n - (intOf i).toNat)
 case atStart=>exact⟨0,nz _,rfl,rfl,ah0.new lU w,(akl _ _).alloc (nr _) _⟩
 case round=>
  obtain⟨k,hk,rfl,rfl,hst⟩:=hrel;have zm:=hst.1.lt;by_cases hlt:k<n
  ·obtain⟨b,o,r,Ar,kr,cr,rfl,hp,hbw,q1,hrd,hkr,-⟩:=Ol HW.out Ud.out hst.2 hlt;have hrm:=akt hp.out;have hLn:aif wr Ar kr r:=⟨hrd,(HL.out r hrm).2,by rw[hkr];exact(HL.out r hrm).1⟩
   obtain⟨t,l,htx⟩:∃t l,af r=t::l:=by
    have:=HNE.out r hrm;cases r with
    |nil=>exact absurd rfl this
    |cons x q=>exact⟨_,_,rfl⟩
   have hkl:(aJ rows)[k]? =some (t::l):=by unfold aJ;rw[akO,hp.out,Option.map_some,htx]
   have hkn:kr=l.length+1:=by rw[<-hLn.length];exact dE htx
   obtain⟨b1,o1,rfl,hb1,p1,hz1⟩:=hLn.word (k:=0) (t:=t) (by rw[htx];rfl) (d:=0) rfl;have hcl:=OX ((aJ rows).take k);rw[akH,hrl.out] at hcl;have hcs:Hid (jl ((aJ rows).take (k+1))=if t=dM then jl ((aJ rows).take k)+1 else jl ((aJ rows).take k)):=by show _=_;rw[ak2,hkl,Option.toList_some,Ux]
   have HST:=hd0 hst;have zV:=hd0 hkl;have hc9:jl ((aJ rows).take k)<=1000000000:=by omega
   generalize hcg:jl ((aJ rows).take k)=cg at*
   have HCG:=hd0 hcg;by_cases ht:t=dM
   ·subst ht;cases l with
    |nil=>
     simp only[ln,ak3] at hkn;subst hkn;have vJ:Hid (∀w1,Below wr.heap.size wr w1->aiS w (aJ rows) (k+1) w1):=fun w1 hb=>HST.out.skip zV.out hb (fun t=> .inl rfl)
     clear hst hkl hcg hrd hkr hLn htx hp hrm hcl;go_wp2_with fail
     go_roundw
     case rel=>exact⟨k+1,by omega,by simp,by rw[hcs.out];simp,vJ.out _ (akl _ _)⟩
     case measure=>simp[intOf];omega
    |cons v l=>
     obtain⟨b2,o2,e',-,p2,hz2⟩:=hLn.word (k:=1) (t:=v) (by rw[htx];rfl) (d:=3) rfl;obtain⟨rfl,rfl⟩:b1=b2/\o1=o2:=by simpa using e'
     clear e';have hk2:(kr:Int)>1:=by rw[hkn];simp;omega
     have hlk0:=HST.out;cases hv:nameB v with
     |false=>
      have vJ:Hid (∀w1,Below wr.heap.size wr w1->aiS w (aJ rows) (k+1) w1):=fun w1 hb=>HST.out.skip zV.out hb (fun t=> .inl (by
       rw[iP,if_pos rfl,wO];simp[hv,aP]))
      have hkk:1<kr:=by omega
      clear hst hkl hcg hrd hkr hLn htx hp hrm hcl hlk0 hkn;go_wp2_with (go_at_call 72;refine(xQ _ v).mono ?_;rintro e w1 ⟨rfl,aY⟩;rw[hv];have nO:=hd0 aY;clear aY)
      go_roundw
      case rel=>exact⟨k+1,by omega,by simp,by rw[hcs.out];simp,vJ.out _ nO.out⟩
      case measure=>simp[intOf];omega
     |true=>
      have HV:=hd0 hv;have hkk:1<kr:=by omega
      have aa6:∀w1,Below wr.heap.size wr w1->ah0 lU w1 w.heap.size (gF (aP 0 ((aJ rows).take k))):=fun w1 hb=>HST.out.1.below hb
      cases hx:(aP 0 ((aJ rows).take k)).lookup v with
      |none=>
       have hf0:gF (aP 0 ((aJ rows).take k)) v=none:=by unfold gF;rw[hx];rfl
       have HX:=hd0 hx;have X5:=hd0 hf0;clear hst hkl hrd hkr hLn htx hp hrm hcl hlk0 hkn hx hf0 hv;go_wp2_with (go_at_call 72;refine(xQ _ v).mono ?_;rintro e w1 ⟨rfl,aY⟩;rw[HV.out];have nO:=hd0 aY;have p2':=((aj aY).1 _ _ hb1).trans p2;have tZ:=aa6 w1 aY;have hlk:=tZ.ai2 Tryz.underlying112 Tryz.underlying9 (Jp w1) v;rw[X5.out] at hlk;obtain⟨w2,hput,hm2,hg2⟩:=tZ.put Tryz.underlying112 Tryz.underlying9 v (.int .i64 (cg:Nat)) X5.out;have YK:(Instr.mapUpdate 112 (.map (some w.heap.size)) (.string ⟨v.toArray⟩) (.int .i64 (cg:Nat))).run Tryz.prog w1= .ok () w2:=hput;have hlk2:(Instr.lookup 112 (.map (some w.heap.size)) (.string ⟨v.toArray⟩) true).run Tryz.prog w1= .ok (.tuple #[.int .i64 0,.bool false]) w1:=hlk;have HM2:=hd0 hm2;have HG2:=hd0 hg2;clear aY tZ hlk hput hm2 hg2)
       go_roundw
       case rel=>refine⟨k+1,by omega,by simp,by rw[hcs.out];simp,?_⟩;refine aiS.put (wr:=w1) (L:=aJ rows) (k:=k) ⟨HST.out.1.below nO.out,HST.out.2.trans (nO.out.mono HST.out.2.size)⟩ zV.out HV.out HX.out ?_ HG2.out;rw[HCG.out];exact HM2.out
       case measure=>simp[intOf];omega
      |some m=>
       have hf0:gF (aP 0 ((aJ rows).take k)) v=some (.int .i64 (m:Nat)):=by unfold gF;rw[hx];rfl
       have X5:=hd0 hf0;have vJ:Hid (∀w1,Below wr.heap.size wr w1->aiS w (aJ rows) (k+1) w1):=fun w1 hb=>HST.out.skip zV.out hb (fun x=>by
        rw[iP,if_pos rfl,wO];by_cases hxv:x=v
        ·subst hxv;exact .inr (by rw[hx];rfl)
        refine .inl ?_;have hb:(x==v)=false:=by simpa using hxv
        simp[HV.out,aP,List.lookup,hb])
       clear hst hkl hrd hkr hLn htx hp hrm hcl hlk0 hkn hx hf0 hv;go_wp2_with (go_at_call 72;refine(xQ _ v).mono ?_;rintro e w1 ⟨rfl,aY⟩;rw[HV.out];have nO:=hd0 aY;have p2':=((aj aY).1 _ _ hb1).trans p2;have tZ:=aa6 w1 aY;have hlk:=tZ.ai2 Tryz.underlying112 Tryz.underlying9 (Jp w1) v;rw[X5.out] at hlk;have hlk2:(Instr.lookup 112 (.map (some w.heap.size)) (.string ⟨v.toArray⟩) true).run Tryz.prog w1= .ok (.tuple #[.int .i64 (m:Nat),.bool true]) w1:=hlk;clear aY tZ hlk)
       go_roundw
       case rel=>exact⟨k+1,by omega,by simp,by rw[hcs.out];simp,vJ.out _ nO.out⟩
       case measure=>simp[intOf];omega
   have e1:(t==[103,108,121,112,104])=false:=by simpa using ht
   have e2:(t !=[103,108,121,112,104])=true:=by simpa using ht
   have hk0:0<kr:=by omega
   have vJ:Hid (∀w1,Below wr.heap.size wr w1->aiS w (aJ rows) (k+1) w1):=fun w1 hb=>HST.out.skip zV.out hb (fun x=> .inl (by rw[iP,if_neg ht];rfl))
   have HT:=hd0 ht;clear hst hkl hcg hrd hkr hLn htx hp hrm hcl ht hkn;go_wp2_with fail
   go_roundw
   case rel=>exact⟨k+1,by omega,by simp,by rw[hcs.out,if_neg HT.out],vJ.out _ (akl _ _)⟩
   case measure=>simp[intOf];omega
  obtain rfl:k=n:=by omega
  have hfin:ah0 lU wr w.heap.size (gF (aP 0 (aJ rows))):=by
   have:=hst.1
   rwa [akE (by rw[hrl.out];exact nr _)] at this
  have HF:=hd0 hfin;have OV:=hd0 hst.2;clear hfin hst;go_wp2_with fail
  go_ret
  exact⟨_,rfl,nr _,HF.out,OV.out⟩
attribute [-go_sem] Builtin.append_
abbrev CS:TypeId:=119
abbrev Yc:TypeId:=211
def aiT (w1:World)(rows:List (List P3))(vs:List Value)(k:Nat)(wr:World):Prop:=
 ∃hs:List Value,hs.length=3/\Bk wr w1.heap.size iO vs.toArray/\Bk wr (w1.heap.size+1) Yc hs.toArray/\RowsIn dW wr vs rows/\Below w1.heap.size w1 wr/\
  ∀(j:Nat) (r:List P3),j<k->rows[j]? =some r->∃S A c hj,iU r=some S/\hs[j]? =some (.slice A S.length c)/\RdT wr CS A S.length 1 hj/\RowsIn dW wr hj S
theorem yh {w:World}{hs:List Value}{rows:List (List P3)}(h:RowsIn dW w hs rows){g:Nat}{t:TypeId}{cs:Array Value}(hb:Bk w g t cs)(hne:dW≠t)(i:Nat)(u:Value):RowsIn dW (w.setCell ⟨g,i,none⟩ u) hs rows:=h.kept fun _ _ _ hr=>hr.ajl hb hne i u
theorem aiT.start {w1:World}{rows:List (List P3)}{a b c d:Value}(hin:RowsIn dW w1 [a,b,c,d] rows):aiT w1 rows [a,b,c,d] 0 ((w1.alloc (.cells #[a,b,c,d] iO)).alloc (.cells #[.slice none 0 0,.slice none 0 0,.slice none 0 0] Yc)):=by have h1:Bk (w1.alloc (.cells #[a,b,c,d] iO)) w1.heap.size iO #[a,b,c,d]:=Bk.new _ _ _;refine⟨[.slice none 0 0,.slice none 0 0,.slice none 0 0],rfl,h1.alloc _,?_,(hin.alloc _).alloc _,((akl _ _).alloc (nr _) _).alloc (by simp) _,fun j r h=>by omega⟩;have:=Bk.new (w1.alloc (.cells #[a,b,c,d] iO)) Yc #[.slice none 0 0,.slice none 0 0,.slice none 0 0];simpa using this
theorem aiT.next {w1 wr w2:World}{rows:List (List P3)}{vs:List Value}{k:Nat}{r:List P3}{S:List (List P3)}{v:Value}(h:aiT w1 rows vs k wr)(hk:k<3)(hr:rows[k]? =some r)(hS:iU r=some S)(hret:uq dW CS wr w2 S v):aiT w1 rows vs (k+1) (w2.setCell ⟨w1.heap.size+1,k,none⟩ v):=by
 obtain⟨hs,l3,b1,b2,hin,hb,hj⟩:=h;obtain⟨A,c,h9,rfl,q1,q2,q3⟩:=hret;have b1':=b1.keep (q3.block _ b1.lt);have b2':=b2.keep (q3.block _ b2.lt);refine⟨hs.set k (.slice A S.length c),by simp[l3],Bk.far b1' (by simp) _,?_,yh (hin.below q3) b2' (by decide) _ _,(hb.trans (q3.mono hb.size)).setCell (by simp) _,fun j r' hlt hr'=> ?_⟩
 ·have:=b2'.set k (.slice A S.length c);simpa using this
 by_cases hjk:j=k
 ·subst hjk;rw[hr] at hr';cases hr';exact⟨S,A,c,h9,hS,by rw[List.getElem?_set_self (by omega)],q1.ajl b2' (by decide) _ _,yh q2 b2' (by decide) _ _⟩
 obtain⟨S',A',c',hj',e1,e2,e3,e4⟩:=hj j r' (by omega) hr';exact⟨S',A',c',hj',e1,by rw[List.getElem?_set_ne (fun e=>hjk e.symm)];exact e2,(e3.below q3).ajl b2' (by decide) _ _,yh (e4.below q3) b2' (by decide) _ _⟩
theorem Qx (gl:Gl)(s:PS){l:List B}{init:List Lookup}{lk:Lookup}(hs:s.f.ahP=init++[lk])(h:oP l=none):ed gl s l= .error 22:=by unfold ed;rw[hs,List.getLast?_append];simp only[List.getLast?_singleton,Option.some_or];rw[h]
theorem RY (gl:Gl)(s:PS){l:List B}{init:List Lookup}{lk:Lookup}(hs:s.f.ahP=init++[lk]){p0 p1 p2 p3:List B}(h:oP l=some [p0,p1,p2,p3])(hn:eG p0=none\/eG p1=none\/eG p2=none):ed gl s l= .error 22:=by
 unfold ed;rw[hs,List.getLast?_append];simp only[List.getLast?_singleton,Option.some_or];rw[h];simp only;rcases hn with h|h|h
 ·rw[h]
 ·rw[h];cases eG p0<;>rfl
 rw[h];cases eG p0<;>cases eG p1<;>rfl
theorem ET (s:PS)(h:Lookup->Lookup){init:List Lookup}{lk:Lookup}(hs:s.f.ahP=init++[lk]):jC s h= {s with f:= {s.f with ahP:=init++[h lk]}} :=by unfold jC;rw[hs,List.dropLast_concat,List.getLast?_append];rfl
end
section
open Go.RowKit
theorem QC {w:World}{rv:Rows}:∀b,Fz w rv b->Dt w b:=fun b ⟨cs,t,h1,h2,_⟩=>⟨cs,t,h1,h2⟩
theorem aaH {w:World}{Bd:Nat}{rv:Rows}(h:Live w Bd rv){j:Nat}(hj:j<15):∀g,(rv j).v.ownBlock=some g->Dt w g:=fun g hg=>by
 obtain⟨cur,hb⟩:=aV (h.own j hj) hg;exact⟨cur,_,hb,um j⟩
theorem Live.fin {α:Type}{R:Rel α}(ok:R.Ok){w:World}{Bd:Nat}{rv:Rows}(h:Live w Bd rv){j:Nat}(hj:j<15){size:Nat}(hs:kS j=size){xs:List α}(hn:(rv j).n=xs.length)(hf:Fl R size w (Dt w) (rv j).xs xs):∃A c,(rv j).v= .slice A xs.length c/\Sl R size w (Dt w) A xs:=by obtain⟨A,c,hv⟩:=gX (h.own j hj);have ho:=h.own j hj;have hd:=aaH h hj;rw[hv] at ho hd;refine⟨A,c,by rw[hv,hn],?_⟩;subst hs;exact Sl.aiC ho hf hd (UC j)
theorem Live.aja {α:Type}{R:Rel α}(ok:R.Ok){w:World}{Bd:Nat}{rv:Rows}(h:Live w Bd rv){j:Nat}(hj:j<15){size:Nat}(hs:kS j=size){xs:List α}(hf:aic R size w (Fz w rv) (rv j) xs):∃A c,(rv j).v= .slice A xs.length c/\Sl R size w (Dt w) A xs:=h.fin ok hj hs hf.1 (hf.2.mono ok QC)
theorem PSt.done {w:World}{Bd p gm cm:Nat}{gl:Gl}{s:PS}{rv:Rows}{K:Nat}(h:PSt w Bd p gm cm gl s rv K):aim w (Dt w) [.int .i64 s.f.unit,(rv 0).v,(rv 1).v,(rv 2).v,(rv 3).v,(rv 4).v,(rv 5).v,(rv 6).v,(rv 7).v] s.f:=by
 have hl:=h.live;obtain⟨A0,c0,e0,f0⟩:=hl.fin ahW.ok (j:=0) (by decide) rfl h.fnt.gly.1 ((GlD.told hl h.fnt.gly).mono ahW.ok QC);obtain⟨A1,c1,e1,f1⟩:=hl.aja ait.ok (j:=1) (by decide) rfl h.fnt.chr;have hlk:Fl ah1 3 w (Dt w) (rv 2).xs s.f.ahP:=by
  rcases h.fnt.lks.2 with⟨g1,g2⟩|⟨init,l,ci,g1,g2,g3,g4,g5⟩
  ·rw[g1,g2];exact Fl.nil
  obtain⟨A,c,e,f⟩:=hl.aja aig.ok (j:=14) (by decide) rfl g5;rw[g1,g2,e];exact(g4.mono ah1.ok QC).append (Fl.one (R:=ah1) ⟨A,c,rfl,g3,f⟩ rfl)
 obtain⟨A2,c2,e2,f2⟩:=hl.fin ah1.ok (j:=2) (by decide) rfl h.fnt.lks.1 hlk;obtain⟨A3,c3,e3,f3⟩:=hl.aja ah2.ok (j:=3) (by decide) rfl h.fnt.fts;obtain⟨A4,c4,e4,f4⟩:=hl.aja aij.ok (j:=4) (by decide) rfl h.fnt.axs;obtain⟨A5,c5,e5,f5⟩:=hl.aja ah7.ok (j:=5) (by decide) rfl h.fnt.rgs;obtain⟨A6,c6,e6,f6⟩:=hl.aja aih.ok (j:=6) (by decide) rfl h.fnt.fns;obtain⟨A7,c7,e7,f7⟩:=hl.aja ahT.ok (j:=7) (by decide) rfl h.fnt.cvt;rw[e0,e1,e2,e3,e4,e5,e6,e7];exact⟨A0,c0,A1,c1,A2,c2,A3,c3,A4,c4,A5,c5,A6,c6,A7,c7,rfl,h.fnt.unit,f0,f1,f2,f3,f4,f5,f6,f7⟩
def EC:Rows:=fun _=>RV.nil
theorem Live.start (w:World)(Bd:Nat):Live w Bd EC:=⟨fun j _=>World.ownsRow_nil w Bd _ _,fun i j _ _ _ g h=>by cases h⟩
theorem FD.start (w:World)(S:Bs):FD w S EC f0:={unit:=⟨by decide,by decide⟩,gly:=⟨rfl,.inl ⟨rfl,rfl⟩⟩,chr:=aic.nil _ _ _ _,lks:=⟨rfl,.inl ⟨rfl,rfl⟩⟩,fts:=aic.nil _ _ _ _,axs:=aic.nil _ _ _ _,rgs:=aic.nil _ _ _ _,fns:=aic.nil _ _ _ _,cvt:=aic.nil _ _ _ _}
theorem PSt.start {w:World}{Bd p gm cm:Nat}{gl:Gl}(hp:Bk w p jq (dV ps0 EC gm cm))(hg:ah0 lU w gm (gF gl))(hc:ah0 lU w cm (fun _=>none))(hI:∀t n,gl.lookup t=some n->n<=1000000000)(hB:Bd<=p/\Bd<=gm/\Bd<=cm/\gm≠cm):PSt w Bd p gm cm gl ps0 EC 0:={par:=hp,live:=Live.start _ _,fnt:=FD.start _ _,gmp:=hg,glI:=hI,cls:=⟨_,hc,fun t=> .inl ⟨rfl,rfl⟩⟩,few:=fun j _=>nr _,low:=hB}
def tot (l:List (List Wd)):Nat:=(l.map List.length).sum
theorem XD (ps:List B)(n:Nat):tot (bF n ps)<=(ps.map List.length).sum:=by
 induction ps generalizing n with
 |nil=>exact nr _
 |cons p ps ih=>
  have h1:=ih (n+1);have h2:=O9 p;unfold tot at h1 ⊢;rw[bF];split
  ·simp only[akX,akv,ak4];omega
  simp only[akY,akv,ak9,List.sum_append,ak4,List.sum_nil,BI];omega
theorem YU (s:B):((gW s).map List.length).sum<=s.length:=by
 induction s with
 |nil=>exact nr _
 |cons c r ih=>
  rw[gW];split
  ·simp only[akv,ak4,ln,aF];omega
  cases hp:gW r with
  |nil=>exact absurd hp (KH r)
  |cons p ps=>rw[hp] at ih;simp only[akv,ak4,aF] at ih ⊢;omega
theorem He (s:B):tot (fJ s)<=s.length:=nt (XD _ _) (YU s)
theorem Wj (L:List (List Wd))(k:Nat)(r:List Wd)(h:L[k]? =some r):tot (L.take k)+r.length<=tot L/\tot (L.take (k+1))=tot (L.take k)+r.length:=by
 have hk:=(akn.1 h).1;have e:L.take (k+1)=L.take k++[r]:=by rw[ak2,h];rfl
 have e2:tot (L.take (k+1))=tot (L.take k)+r.length:=by unfold tot;rw[e];simp
 refine⟨?_,e2⟩;have:tot L=tot (L.take (k+1))+tot (L.drop (k+1)):=by
  unfold tot
  conv=>lhs;rw[<-akS (k+1) L]
  rw[akY,List.sum_append]
 omega
theorem Em (s:B):∀r∈fJ s,r≠[]:=by
 unfold fJ;generalize 1=n;induction gW s generalizing n with
 |nil=>intro r hr;simp[bF] at hr
 |cons p ps ih=>
  intro r hr;rw[bF,akq] at hr;rcases hr with hr|hr
  ·split at hr
   ·simp at hr
   rename_i h;simp only[akm] at hr;subst hr;simpa [num] using h
  exact ih _ r hr
theorem Tu (s:B):(fJ s).length<=s.length+1:=by have h1:=yX 1 (gW s);have h2:=Sm s;have h3:s.count 10<=s.length:=List.count_le_length;unfold fJ;omega
theorem xH {gl:Gl}{L:List (Int×List B)}{k:Nat}{no:Int}{l:List B}{s:PS}(h:stmts gl ps0 (L.take k)= .ok s)(hk:L[k]? =some (no,l)):stmts gl ps0 (L.take (k+1))=(match stmt gl s l with| .ok s'=> .ok s'| .error e=> .error (no,e)):=by rw[ak2,hk,Option.toList_some,AO,h];simp only[stmts];cases stmt gl s l<;>rfl
theorem UT {gl:Gl}{L:List (Int×List B)}{k:Nat}{no e:Int}{l:List B}{s:PS}(h:stmts gl ps0 (L.take k)= .ok s)(hk:L[k]? =some (no,l))(he:stmt gl s l= .error e):stmts gl ps0 L= .error (no,e):=by
 have h1:=xH h hk;rw[he] at h1
 conv=>lhs;rw[<-akS (k+1) L]
 rw[AO,h1]
end
section
theorem Gw (gl:Gl)(cls:List (B×List Int))(er:Int)(he:er≠0)(l:List (List B)):(aI gl cls er l).1=er:=by
 suffices h:∀acc,(l.foldl (fun q x=>((aT gl cls q.1 [] x).1,q.2++[(aT gl cls q.1 [] x).2])) ((er,acc):Int×List (List Int))).1=er from h []
 induction l with
 |nil=>intro acc;rfl
 |cons x r ih=>intro acc;rw[akN];simp only;rw[ED gl cls er he];exact ih _
theorem DZ (gl:Gl)(cls:List (B×List Int))(l:List (List B)):(∃e,iV gl cls l= .error e/\e≠0/\(aI gl cls 0 l).1=e)\/(∃xs,iV gl cls l= .ok xs/\aI gl cls 0 l=(0,xs)):=by
 suffices h:∀acc:List (List Int),(∃e,iV gl cls l= .error e/\e≠0/\(l.foldl (fun q x=>((aT gl cls q.1 [] x).1,q.2++[(aT gl cls q.1 [] x).2])) ((0,acc):Int×List (List Int))).1=e)\/(∃xs,iV gl cls l= .ok xs/\l.foldl (fun q x=>((aT gl cls q.1 [] x).1,q.2++[(aT gl cls q.1 [] x).2])) ((0,acc):Int×List (List Int))=(0,acc++xs)) from h []
 induction l with
 |nil=>intro acc;exact .inr ⟨[],rfl,by simp⟩
 |cons x r ih=>
  intro acc;rw[akN,iV];simp only;rcases Bv gl cls [] x (by simp) with⟨e,h1,h2,h3⟩|⟨g,h1,h2,-⟩
  ·rw[h1,h3];refine .inl ⟨e,rfl,h2,?_⟩
   suffices h:∀acc,(r.foldl (fun q x=>((aT gl cls q.1 [] x).1,q.2++[(aT gl cls q.1 [] x).2])) ((e,acc):Int×List (List Int))).1=e from h _
   intro acc;clear ih;induction r generalizing acc with
   |nil=>rfl
   |cons y r ih=>rw[akN];simp only;rw[ED gl cls e h2];exact ih _
  rw[h1,h2];simp only;rcases ih (acc++[g]) with⟨e,k1,k2,k3⟩|⟨xs,k1,k2⟩
  ·rw[k1];exact .inl ⟨e,rfl,k2,k3⟩
  rw[k1];exact .inr ⟨g::xs,rfl,by rw[k2];simp⟩
def jU (gl:Gl)(kind e:Int)(p3:List B):Int:=if kind=1\/kind=2\/kind=3\/kind=5 then rO gl e p3 else if kind=4 then p3.foldl lQ e else if kind=6 then fB e p3 else e
theorem YT (gl:Gl)(e:Int)(he:e≠0)(l:List B):rO gl e l=e:=by
 induction l with
 |nil=>rfl
 |cons x r ih=>
  show(x::r).foldl (jB gl) e=e;rw[akN];have:jB gl e x=e:=by unfold jB;rw[if_neg (fun h=>he h.1)]
  rw[this];exact ih
theorem Gq (e:Int)(he:e≠0)(t:B):aG e t=e:=by unfold aG;rw[if_neg (fun h=>he h.1)]
theorem WB (e:Int)(he:e≠0)(l:List B):fB e l=e:=by
 induction l with
 |nil=>rfl
 |cons x r ih=>show(x::r).foldl aG e=e;rw[akN,Gq e he];exact ih
theorem Vq (e:Int)(he:e≠0)(l:List B):l.foldl lQ e=e:=by
 induction l with
 |nil=>rfl
 |cons x r ih=>
  rw[akN];have:lQ e x=e:=by unfold lQ;rw[Gq e he,Gq e he]
  rw[this];exact ih
theorem LX (gl:Gl)(kind e:Int)(he:e≠0)(p3:List B):jU gl kind e p3=e:=by
 unfold jU;split
 ·exact YT gl e he p3
 split
 ·exact Vq e he p3
 split
 ·exact WB e he p3
 rfl
def cZ (gl:Gl)(kind:Int)(b i a:List (List Int))(p3:List B):aii:=⟨b.map setOf,i.map setOf,a.map setOf,if kind=1\/kind=2\/kind=3\/kind=5 then p3.map (fF gl) else [],if kind=4 then p3.map jI else [],if kind=6 then aA (p3.headD []) else 0⟩
def xB (s:PS)(kind:Int)(i:List (List Int))(r:aii):Ans:=
 if kind=1\/kind=5 then(match dZ (i.headD []) r.out with
  | .error e=> .error e
  | .ok o=> .ok (jC s fun lk=> {lk with rules:=lk.rules++[{r with out:=o}]}))
 else .ok (jC s fun lk=> {lk with rules:=lk.rules++[r]})
theorem Tt (gl:Gl)(s:PS){l:List B}{init:List Lookup}{lk:Lookup}(hs:s.f.ahP=init++[lk]){p0 p1 p2 p3:List B}(h:oP l=some [p0,p1,p2,p3]){T0 T1 T2:List (List B)}(h0:eG p0=some T0)(h1:eG p1=some T1)(h2:eG p2=some T2)(hok:¬((lk.kind=1\/lk.kind=5)/\T1.length≠1))(hok2:dY lk.kind p3=true):
  let q0:=aI gl s.cls 0 T0
  let q1:=aI gl s.cls q0.1 T1
  let q2:=aI gl s.cls q1.1 T2
  let e4:=jU gl lk.kind q2.1 p3
  ed gl s l=if e4≠0 then .error e4 else xB s lk.kind q1.2 (cZ gl lk.kind q0.2 q1.2 q2.2 p3):=by
 intro q0 q1 q2 e4;unfold ed;rw[hs,List.getLast?_append];simp only[List.getLast?_singleton,Option.some_or];rw[h];simp only;rw[h0,h1,h2];simp only;rw[if_neg hok,if_neg (by rw[hok2];simp)];rcases DZ gl s.cls T0 with⟨e,k1,k2,k3⟩|⟨xs,k1,k3⟩
 ·have a1:q1.1=e:=by show(aI gl s.cls (aI gl s.cls 0 T0).1 T1).1=e;rw[k3,Gw _ _ _ k2]
  have a2:q2.1=e:=by show(aI gl s.cls q1.1 T2).1=e;rw[a1,Gw _ _ _ k2]
  have a3:e4=e:=by show jU gl lk.kind q2.1 p3=e;rw[a2,LX _ _ _ k2]
  rw[k1,a3,if_pos k2]
 have b0:q0=(0,xs):=k3;have b1:q1=aI gl s.cls 0 T1:=by show aI gl s.cls q0.1 T1=_;rw[b0]
 rw[k1];simp only;rcases DZ gl s.cls T1 with⟨e,m1,m2,m3⟩|⟨ys,m1,m3⟩
 ·have a1:q1.1=e:=by rw[b1,m3]
  have a2:q2.1=e:=by show(aI gl s.cls q1.1 T2).1=e;rw[a1,Gw _ _ _ m2]
  have a3:e4=e:=by show jU gl lk.kind q2.1 p3=e;rw[a2,LX _ _ _ m2]
  rw[m1,a3,if_pos m2]
 have c1:q1=(0,ys):=by rw[b1,m3]
 have c2:q2=aI gl s.cls 0 T2:=by show aI gl s.cls q1.1 T2=_;rw[c1]
 rw[m1];simp only;rcases DZ gl s.cls T2 with⟨e,n1,n2,n3⟩|⟨zs,n1,n3⟩
 ·have a2:q2.1=e:=by rw[c2,n3]
  have a3:e4=e:=by show jU gl lk.kind q2.1 p3=e;rw[a2,LX _ _ _ n2]
  rw[n1,a3,if_pos n2]
 have c3:q2=(0,zs):=by rw[c2,n3]
 rw[n1];have he4:e4=jU gl lk.kind 0 p3:=by show jU gl lk.kind q2.1 p3=_;rw[c3]
 rw[he4,b0,c1,c3];rfl
end
section
open Go.RowKit
theorem Dk (gl:Gl)(cls:List (B×List Int))(Q:List Int->Prop)(hQ:∀er l,Q (aT gl cls er [] l).2)(er:Int)(l:List (List B)):∀r∈(aI gl cls er l).2,Q r:=by
 suffices h:∀q:Int×List (List Int),(∀r∈q.2,Q r)->∀r∈(l.foldl (fun q x=>((aT gl cls q.1 [] x).1,q.2++[(aT gl cls q.1 [] x).2])) q).2,Q r from h (er,[]) (fun r hr=>by simp at hr)
 induction l with
 |nil=>intro q hq;exact hq
 |cons x r ih=>
  intro q hq;rw[akN];refine ih _ fun y hy=> ?_
  rcases akq.1 hy with g|g
  ·exact hq y g
  simp only[akm] at g;subst g;exact hQ _ _
theorem Zd (gl:Gl)(cls:List (B×List Int))(hc:∀t l,cls.lookup t=some l->l.length<=2000)(er:Int)(acc:List Int)(ha:acc.length<=1000)(l:List B):(aT gl cls er acc l).2.length<=3001:=by
 have hw:∀er acc t,acc.length<=1000->(ik gl cls er acc t).2.length<=3001:=by
  intro er acc t ha;unfold ik;split
  ·split
   ·rename_i c hcl;have:=hc _ _ hcl;show(acc++c).length<=_;rw[la];omega
   show acc.length<=_;omega
  show(acc++[_]).length<=_;rw[la,List.length_singleton];omega
 induction l generalizing er acc with
 |nil=>exact nt ha (by omega)
 |cons t r ih=>
  rw[aT];split
  ·exact hw er acc t ha
  split
  ·exact hw er acc t ha
  rename_i h1 h2;exact ih _ _ (by omega)
theorem PSt.akh {w:World}{Bd p gm cm:Nat}{gl:Gl}{s:PS}{rv:Rows}{K:Nat}(h:PSt w Bd p gm cm gl s rv K):∀t l,s.cls.lookup t=some l->l.length<=2000:=by
 intro t l hl;obtain⟨f,h1,h2⟩:=h.cls;rcases h2 t with⟨g,_⟩|⟨l',A,c,e1,e2,e3,e4⟩
 ·rw[g] at hl;cases hl
 rw[e1] at hl;cases hl;exact e4
structure aiq (base:Nat)(A:Option Addr)(n:Nat)(hs:List Value)(xs:List (List Int))(w:World):Prop where
 rd:RdT w 22 A n 1 hs
 fl:Fl ahV 1 w (IB base w) hs xs
theorem aiq.mk' {w:World}{b2 base:Nat}{A:Option Addr}{n c:Nat}{hs:List Value}{xs:List (List Int)}(ho:w.ownsRow b2 22 1 (.slice A n c) n hs)(hf:Fl ahV 1 w (IB base w) hs xs):aiq base A n hs xs w:=⟨jf ho,hf⟩
theorem aiq.reader {base:Nat}{A:Option Addr}{n:Nat}{hs:List Value}{xs:List (List Int)}{w w':World}{rb p:Nat}{er:Int}(h:aiq base A n hs xs w)(hr:Rdr w rb p er)(hg:w.grownBy w' (some rb)):aiq base A n hs xs w':=⟨h.rd.grown hg (fun g e=>by cases e;exact⟨_,_,hr,by decide⟩),h.fl.ib hg (fun g e=>by cases e;exact⟨_,_,hr,by decide⟩)⟩
theorem aiq.below {base:Nat}{A:Option Addr}{n:Nat}{hs:List Value}{xs:List (List Int)}{w w':World}(h:aiq base A n hs xs w)(hb:Below w.heap.size w w'):aiq base A n hs xs w':=⟨h.rd.below hb,h.fl.ib (aC hb none) (fun g e=>by cases e)⟩
theorem aiq.sets {base:Nat}{A:Option Addr}{n c:Nat}{hs:List Value}{xs:List (List Int)}{w:World}(h:aiq base A n hs xs w)(hn:n<=1000000000)(hl:∀r∈xs,r.length<=1000000000)(hI:∀r∈xs,∀x∈r,I64 x):
  Calls Tryz.prog 137 #[.slice A n c] w fun e w'=>∃v,e= .returned v/\aiY w n (xs.map setOf) v w':=
 SK w A n c xs hs h.rd h.fl (fun b hb=>by obtain⟨-,cur,hk⟩:=hb;exact hk.lt) hn hl hI
theorem aiq.first {base:Nat}{A:Option Addr}{n:Nat}{hs:List Value}{x:List Int}{xs:List (List Int)}{w:World}(h:aiq base A n hs (x::xs) w)(hn:0<n):∃b o A' c',A=some ⟨b,o,none⟩/\b<w.heap.size/\w.cell? ⟨b,o,none⟩=some (.slice A' x.length c')/\Rd w w.heap.size A' x.length 1 (aW x):=by obtain⟨b,o,cur,e,hb,hc⟩:=h.rd.2 hn;obtain⟨A',c',h0,hsl⟩:=OA h.fl (k:=0) (r:=x) rfl;exact⟨b,o,A',c',e,hb.lt,(hb.cell o).trans (hc 0 _ h0),Qm hsl (fun b hb=>by obtain⟨-,cur,hk⟩:=hb;exact hk.lt)⟩
theorem PSt.ib {w w2:World}{Bd p gm cm:Nat}{gl:Gl}{s:PS}{rv:Rows}{K:Nat}(h:PSt w Bd p gm cm gl s rv K){base:Nat}(hb:w.heap.size<=base):∀g,IB base w2 g->Fz w2 rv g:=by rintro g ⟨h1,cur,hk⟩;refine⟨cur,_,hk,by decide,fun j hj e'=> ?_⟩;have:=((h.live.own j hj).lt g e').2;omega
end
end Go.Proofs.YtkijckccfookeaaGreatDoor
