/- Lemmas. -/
import Derived.Test.YtkijckccfookeaaGreatDoorV28
set_option linter.unusedVariables false
set_option linter.unusedSimpArgs false
set_option maxRecDepth 100000
set_option maxHeartbeats 32000000
namespace Go.Proofs.YtkijckccfookeaaGreatDoor
open Go.RowKit
section
attribute [-go_sem] Builtin.append_
theorem zV (L:List B)(t:B)(h:∀(j:Nat) (s:B),L[j]? =some s->s≠t):ja L t=0:=by rw[ja,if_neg];intro hm;obtain⟨j,hj⟩:=aqG.1 hm;exact h j t hj rfl
theorem EN (L:List B)(t:B)(k:Nat)(h:L[k]? =some t)(hl:∀(j:Nat) (s:B),j<k->L[j]? =some s->s≠t):ja L t=(k:Int)+1:=by
 rw[ja,if_pos (aqt h)];have:L.findIdx (· ==t)=k:=by rw[List.findIdx_eq (aqm.1 h).1];obtain⟨hk,hg⟩:=aqm.1 h;refine⟨by simp[hg],fun j hj=> ?_⟩;have:=hl j L[j] hj (aqn (by omega));simpa using this
 rw[this]
theorem qR:aS.length=8:=by decide
theorem Et (k:Nat)(s:B)(h:aS[k]? =some s)(w:World):(Instr.index 206 (.agg (strs aS).toArray) (.int .i64 (k:Int))).run Tryz.prog w= .ok (.string ⟨s.toArray⟩) w:=by
 have hk:k<8:=by have:=(aqm.1 h).1;rw[qR] at this;exact this
 have hs:=strs_get h;have hk2:(k:Int)<8:=by omega
 have hk3:(0:Int)<=k:=by omega
 simp[Instr.index,go_sem,hk2,hk3,hs];omega
theorem G9:(strs aS).toArray.size=8:=by simp[EI,qR]
theorem WR (s:PS)(l:List B)(h:l.length≠1)(h3:∀a,l≠[a,iE]):gB s l= .error 22:=by
 unfold gB;split
 ·rename_i k r;rw[if_neg];rintro(e|e)
  ·subst e;exact h rfl
  subst e;exact h3 _ rfl
 rfl
theorem Ew (s:PS)(t1:B)(r:List B)(hr:r=[]\/r=[iE]):gB s (t1::r)=if ja aS t1=0 then .error 22 else .ok {s with f:= {s.f with anM:=s.f.anM++[⟨ja aS t1,!r.isEmpty,[]⟩]}} :=by show(if r=[]\/r=[iE] then _ else _)=_;rw[if_pos hr]
theorem Tc (w:World)(Bd p gm cm:Nat)(gl:Gl)(s:PS)(rv:Rows)(K:Nat)(A:Option Addr)(n c:Nat)(ws:List P3)(t t1:B)(hP:PSt w Bd p gm cm gl s rv K)(hL:aok w A n ws)(hT:ah ws=t::[t1])(hK:K<=10000000000)(fF:aoi w):
  Calls Tryz.prog 87 #[.pointer (some ⟨p,0,none⟩),.slice A n c] w (anQ w Bd p gm cm gl (K+n) (gB s [t1])):=by
 have hn:n=2:=by rw[<-hL.length];exact dG hT
 have hB:=hP.size;obtain⟨b,o,rfl,hb,q1,hz1⟩:=hL.word (k:=1) (t:=t1) (by rw[hT];rfl) (d:=3) rfl;subst hn;have HP:=hd0 hP;have hpb:p<w.heap.size:=hP.par.lt;obtain⟨A0,c0,hv⟩:=hP.slice (i:=2) (by decide);have kp:w.cell? ⟨p,3,none⟩=some (rv 2).v:=hP.par.cell 3;rw[hv] at kp;have hfew:=hP.few 2 (by decide);have HR:=hd0 (Ew s t1 [] (by simp));obtain⟨ty,fz,hbt⟩:=fF.kinds;have hix:=hd0 Et;have hsz:=G9;have hpost:Hid (∀k:Nat,(∀j s,j<k->aS[j]? =some s->s≠t1)->((aS[k]? =some t1->ja aS t1=(k:Int)+1)/\(8<=k->ja aS t1=0))):=fun k hl=>by
  refine⟨fun h=>EN _ t1 k h hl,fun hk=>zV _ t1 fun j s hj=>hl j s ?_ hj⟩;have:=(aqm.1 hj).1;rw[qR] at this;omega
 generalize (strs aS).toArray=cs at*
 have OV:=hd0 (show(Tryz.prog.info? 206).map (·.size)=some cs.size by rw[hsz];kernel_rfl);clear hsz hP hL hT hz1 fF;go_enter Tryz.func87,Tryz.ntmps87
 go_wp2_with (refine wpList_load_row rfl 206 (.global 3) rfl 3 rfl ty cs fz _ hbt Tryz.underlying206 rfl OV.out ?_)
 go_loop [26] (fun i=>∃k:Nat,k<=8/\i= .int .i64 k/\Hid (∀j s,j<k->aS[j]? =some s->s≠t1)) (fun i=>8 - (intOf i).toNat)
 case atStart=>exact⟨0,by omega,rfl,fun j s hj=>by omega⟩
 case round=>
  obtain⟨k,hk,rfl,hl⟩:=hrel;by_cases hlt:k<8
  ·obtain⟨nm,hs⟩:∃nm,aS[k]? =some nm:=⟨_,aqn (by rw[qR];exact hlt)⟩
   have hrun:=hix.out k nm hs;by_cases he:nm=t1
   ·have HR2:Hid (gB s [t1]= .ok {s with f:= {s.f with anM:=s.f.anM++[⟨(k:Int)+1,false,[]⟩]}}):=by
     show _=_;have:=(hpost.out k hl.out).1 (by rw[hs,he]);rw[HR.out,this,if_neg (by omega)];rfl
    have e1:(nm==t1)=true:=by simp[he]
    have aO:=HP.out;have hown:=aO.live.own 2 (by decide);rw[hv] at hown;obtain⟨A5,c5,w9,agX,aZ,aB,bD⟩:=xU QM 26 w Bd _ c0 A0 _ #[.int .i64 ((k:Int)+1),.bool false,.slice none 0 0] rfl hown (by simp[Value.oneCell']) (by omega) aO.size;rw[<-hv] at aB bD;have bT:Bk w9 p jq (dW s rv gm cm):=(aO.row (i:=2) (by decide) (r:=⟨.slice A5 ((rv 2).n+1) c5,_,_⟩) aB aZ bD).1;have x9:w9.cell? ⟨p,3,none⟩=some (rv 2).v:=bT.cell 3;have y9:=bT.frozen 3;have bP:=hd0 (aO.apa (kd:=(k:Int)+1) (ig:=false) aB aZ bD ⟨by omega,by omega⟩ (K':=K+2) (by omega));have ik:=hd0 (aO.aoB (i:=2) (by decide) aB 3 (.slice A5 ((rv 2).n+1) c5) aO.size);clear hs he hl hown aZ aB bD bT aO;go_wp2;go_ret
    obtain⟨rv',g1,g2⟩:=bP.out;exact anQ.good HR2.out ik.out g2 g1
   have hnx:Hid (∀j s,j<k+1->aS[j]? =some s->s≠t1):=fun j s' hj hs'=>by
    by_cases hjk:j=k
    ·subst hjk;rw[hs] at hs';cases hs';exact he
    exact hl.out j s' (by omega) hs'
   have e1:(nm==t1)=false:=by simpa using he
   clear hs he;go_wp2
   go_round
   case rel=>exact⟨k+1,by omega,by simp,hnx⟩
   case measure=>simp[intOf];omega
  have HR2:Hid (gB s [t1]= .error 22):=by show _=_;rw[HR.out,if_pos ((hpost.out k hl.out).2 (by omega))]
  go_wp2;go_ret
  exact anQ.bad HR2.out (aqk _ _)
theorem TD (w:World)(Bd p gm cm:Nat)(gl:Gl)(s:PS)(rv:Rows)(K:Nat)(A:Option Addr)(n c:Nat)(ws:List P3)(t t1:B)(hP:PSt w Bd p gm cm gl s rv K)(hL:aok w A n ws)(hT:ah ws=t::[t1,iE])(hK:K<=10000000000)(fF:aoi w):
  Calls Tryz.prog 87 #[.pointer (some ⟨p,0,none⟩),.slice A n c] w (anQ w Bd p gm cm gl (K+n) (gB s [t1,iE])):=by
 have hn:n=3:=by rw[<-hL.length];exact dG hT
 have hB:=hP.size;obtain⟨b,o,rfl,hb,q1,hz1⟩:=hL.word (k:=1) (t:=t1) (by rw[hT];rfl) (d:=3) rfl;obtain⟨b',o',e',-,q2,hz2⟩:=hL.word (k:=2) (t:=iE) (by rw[hT];rfl) (d:=6) rfl;obtain⟨rfl,rfl⟩:b=b'/\o=o':=by simpa using e'
 clear e' hz2;subst hn;have HP:=hd0 hP;have hpb:p<w.heap.size:=hP.par.lt;obtain⟨A0,c0,hv⟩:=hP.slice (i:=2) (by decide);have kp:w.cell? ⟨p,3,none⟩=some (rv 2).v:=hP.par.cell 3;rw[hv] at kp;have hfew:=hP.few 2 (by decide);have HR:=hd0 (Ew s t1 [iE] (by simp));obtain⟨ty,fz,hbt⟩:=fF.kinds;have hix:=hd0 Et;have hsz:=G9;have hpost:Hid (∀k:Nat,(∀j s,j<k->aS[j]? =some s->s≠t1)->((aS[k]? =some t1->ja aS t1=(k:Int)+1)/\(8<=k->ja aS t1=0))):=fun k hl=>by
  refine⟨fun h=>EN _ t1 k h hl,fun hk=>zV _ t1 fun j s hj=>hl j s ?_ hj⟩;have:=(aqm.1 hj).1;rw[qR] at this;omega
 generalize (strs aS).toArray=cs at*
 have OV:=hd0 (show(Tryz.prog.info? 206).map (·.size)=some cs.size by rw[hsz];kernel_rfl);clear hsz hP hL hT hz1 fF;go_enter Tryz.func87,Tryz.ntmps87
 go_wp2_with (refine wpList_load_row rfl 206 (.global 3) rfl 3 rfl ty cs fz _ hbt Tryz.underlying206 rfl OV.out ?_)
 go_loop [26] (fun i=>∃k:Nat,k<=8/\i= .int .i64 k/\Hid (∀j s,j<k->aS[j]? =some s->s≠t1)) (fun i=>8 - (intOf i).toNat)
 case atStart=>exact⟨0,by omega,rfl,fun j s hj=>by omega⟩
 case round=>
  obtain⟨k,hk,rfl,hl⟩:=hrel;by_cases hlt:k<8
  ·obtain⟨nm,hs⟩:∃nm,aS[k]? =some nm:=⟨_,aqn (by rw[qR];exact hlt)⟩
   have hrun:=hix.out k nm hs;by_cases he:nm=t1
   ·have HR2:Hid (gB s [t1,iE]= .ok {s with f:= {s.f with anM:=s.f.anM++[⟨(k:Int)+1,true,[]⟩]}}):=by
     show _=_;have:=(hpost.out k hl.out).1 (by rw[hs,he]);rw[HR.out,this,if_neg (by omega)];rfl
    have e1:(nm==t1)=true:=by simp[he]
    have aO:=HP.out;have hown:=aO.live.own 2 (by decide);rw[hv] at hown;obtain⟨A5,c5,w9,agX,aZ,aB,bD⟩:=xU QM 26 w Bd _ c0 A0 _ #[.int .i64 ((k:Int)+1),.bool true,.slice none 0 0] rfl hown (by simp[Value.oneCell']) (by omega) aO.size;rw[<-hv] at aB bD;have bT:Bk w9 p jq (dW s rv gm cm):=(aO.row (i:=2) (by decide) (r:=⟨.slice A5 ((rv 2).n+1) c5,_,_⟩) aB aZ bD).1;have x9:w9.cell? ⟨p,3,none⟩=some (rv 2).v:=bT.cell 3;have y9:=bT.frozen 3;have bP:=hd0 (aO.apa (kd:=(k:Int)+1) (ig:=true) aB aZ bD ⟨by omega,by omega⟩ (K':=K+3) (by omega));have ik:=hd0 (aO.aoB (i:=2) (by decide) aB 3 (.slice A5 ((rv 2).n+1) c5) aO.size);clear hs he hl hown aZ aB bD bT aO;go_wp2;go_ret
    obtain⟨rv',g1,g2⟩:=bP.out;exact anQ.good HR2.out ik.out g2 g1
   have hnx:Hid (∀j s,j<k+1->aS[j]? =some s->s≠t1):=fun j s' hj hs'=>by
    by_cases hjk:j=k
    ·subst hjk;rw[hs] at hs';cases hs';exact he
    exact hl.out j s' (by omega) hs'
   have e1:(nm==t1)=false:=by simpa using he
   clear hs he;go_wp2
   go_round
   case rel=>exact⟨k+1,by omega,by simp,hnx⟩
   case measure=>simp[intOf];omega
  have HR2:Hid (gB s [t1,iE]= .error 22):=by show _=_;rw[HR.out,if_pos ((hpost.out k hl.out).2 (by omega))]
  go_wp2;go_ret
  exact anQ.bad HR2.out (aqk _ _)
theorem SE (w:World)(Bd p gm cm:Nat)(gl:Gl)(s:PS)(rv:Rows)(K:Nat)(A:Option Addr)(n c:Nat)(ws:List P3)(t:B)(l:List B)(hP:PSt w Bd p gm cm gl s rv K)(hL:aok w A n ws)(hT:ah ws=t::l)(h2:l.length≠1)(h3:∀a,l≠[a,iE]):
  Calls Tryz.prog 87 #[.pointer (some ⟨p,0,none⟩),.slice A n c] w (anQ w Bd p gm cm gl (K+n) (gB s l)):=by
 have hn:n=l.length+1:=by rw[<-hL.length];exact dG hT
 have HR:=hd0 (WR s l h2 h3);by_cases h4:l.length=2
 ·obtain⟨t1,t3,rfl⟩:∃t1 t3,l=[t1,t3]:=by
   match l,h4 with
   |[a,b],_=>exact⟨a,b,rfl⟩
  obtain⟨b,o,rfl,hb,q3,hz3⟩:=hL.word (k:=2) (t:=t3) (by rw[hT];rfl) (d:=6) rfl;have h5:t3≠iE:=fun e=>h3 t1 (by rw[e])
  have e3:(t3==[105,103,110,111,114,101])=false:=by rw[beq_eq_false_iff_ne];exact h5
  simp only[ay,ln] at hn;subst hn;clear hP hL hT h2 h3 h4 h5 hz3;go_enter Tryz.func87,Tryz.ntmps87
  go_wp2;go_ret
  exact anQ.bad HR.out (aqk _ _)
 have e4:((n:Int)==3)=false:=by simp;omega
 have e3:((n:Int)==2)=false:=by simp;omega
 have e5:((n:Int) !=2)=true:=by simp;omega
 clear hP hL hT h2 h3 h4 hn;go_enter Tryz.func87,Tryz.ntmps87
 go_wp2;go_ret
 exact anQ.bad HR.out (aqk _ _)
theorem Ob (w:World)(Bd p gm cm:Nat)(gl:Gl)(s:PS)(rv:Rows)(K:Nat)(A:Option Addr)(n c:Nat)(ws:List P3)(t:B)(l:List B)(hP:PSt w Bd p gm cm gl s rv K)(hL:aok w A n ws)(hT:ah ws=t::l)(hK:K<=10000000000)(fF:aoi w):
  Calls Tryz.prog 87 #[.pointer (some ⟨p,0,none⟩),.slice A n c] w (anQ w Bd p gm cm gl (K+n) (gB s l)):=by
 by_cases h2:l.length=1
 ·obtain⟨t1,rfl⟩:∃t1,l=[t1]:=by
   match l,h2 with
   |[a],_=>exact⟨a,rfl⟩
  exact Tc w Bd p gm cm gl s rv K A n c ws t t1 hP hL hT hK fF
 by_cases h3:∃a,l=[a,iE]
 ·obtain⟨t1,rfl⟩:=h3;exact TD w Bd p gm cm gl s rv K A n c ws t t1 hP hL hT hK fF
 exact SE w Bd p gm cm gl s rv K A n c ws t l hP hL hT h2 (fun a e=>h3 ⟨a,e⟩)
end
section
attribute [-go_sem] Builtin.append_
theorem zS:anchorNames.length=4:=by decide
theorem V7 (k:Nat)(s:B)(h:anchorNames[k]? =some s)(w:World):(Instr.index 205 (.agg (strs anchorNames).toArray) (.int .i64 (k:Int))).run Tryz.prog w= .ok (.string ⟨s.toArray⟩) w:=by
 have hk:k<4:=by have:=(aqm.1 h).1;rw[zS] at this;exact this
 have hs:=strs_get h;have hk2:(k:Int)<4:=by omega
 have hk3:(0:Int)<=k:=by omega
 simp[Instr.index,go_sem,hk2,hk3,hs];omega
theorem YR:(strs anchorNames).toArray.size=4:=by simp[EI,zS]
theorem acv:∀i j:Fin 4,anchorNames[i.val]? =anchorNames[j.val]? ->i=j:=by decide
def aoH (t:B)(k:Nat)(kv:Int):Prop:=(kv=0/\∀j s,j<k->anchorNames[j]? =some s->s≠t)\/(∃j,j<k/\kv=(j:Int)+1/\anchorNames[j]? =some t)
theorem aoH.hit {t s:B}{k:Nat}{kv:Int}(_h:aoH t k kv)(hs:anchorNames[k]? =some s)(e:s=t):aoH t (k+1) ((k:Int)+1):= .inr ⟨k,by omega,rfl,by rw[hs,e]⟩
theorem aoH.miss {t s:B}{k:Nat}{kv:Int}(h:aoH t k kv)(hs:anchorNames[k]? =some s)(e:s≠t):aoH t (k+1) kv:=by
 rcases h with⟨h1,h2⟩|⟨j,h1,h2,h3⟩
 ·refine .inl ⟨h1,fun j s' hj hs'=> ?_⟩;by_cases hjk:j=k
  ·subst hjk;rw[hs] at hs';cases hs';exact e
  exact h2 j s' (by omega) hs'
 exact .inr ⟨j,by omega,h2,h3⟩
theorem aoH.done {t:B}{k:Nat}{kv:Int}(h:aoH t k kv)(hk:4<=k):ja anchorNames t=kv:=by
 have hl:∀j s,anchorNames[j]? =some s->j<4:=fun j s hj=>by have:=(aqm.1 hj).1;rw[zS] at this;exact this
 rcases h with⟨h1,h2⟩|⟨j,h1,h2,h3⟩
 ·rw[h1];exact zV _ t fun j s hj=>h2 j s (by have:=hl j s hj;omega) hj
 rw[h2];refine EN _ t j h3 fun i s hi hs e=> ?_
 subst e;have h4:=hl i s hs;have h5:=hl j s h3;have:=acv ⟨i,h4⟩ ⟨j,h5⟩ (hs.trans h3.symm);simp only[Fin.mk.injEq] at this;omega
theorem aoH.i64 {t:B}{k:Nat}{kv:Int}(h:aoH t k kv)(hk:k<=4):I64 kv:=by
 rcases h with⟨rfl,_⟩|⟨j,h1,h2,h3⟩
 ·exact⟨by omega,by omega⟩
 exact⟨by omega,by omega⟩
theorem WV (s:PS)(l:List B)(h:l.length≠4):iT s l= .error 22:=by
 unfold iT;split
 ·rfl
 split
 ·simp at h
 rfl
abbrev AY:TypeId:=89
theorem MP (w:World)(Bd p gm cm:Nat)(gl:Gl)(s:PS)(rv:Rows)(K:Nat)(A:Option Addr)(n c:Nat)(ws:List P3)(t:B)(l:List B)(hP:PSt w Bd p gm cm gl s rv K)(hL:aok w A n ws)(hT:ah ws=t::l)(hK:K<=10000000000)(fF:aoi w){init:List anP}{g:anP}(hs:s.f.anL=init++[g]){G n0 c9 q:Nat}(h0:(rv 0).v= .slice (some ⟨G,0,none⟩) n0 c9)(hq:q=init.length*9):
  Calls Tryz.prog 83 #[.pointer (some ⟨p,0,none⟩),.slice A n c,.pointer (some ⟨G,q,none⟩)] w (anQ w Bd p gm cm gl (K+n) (iT s l)):=by
 have hn:n=l.length+1:=by rw[<-hL.length];exact dG hT
 have hB:=hP.size;by_cases h1:l.length=4
 ·obtain⟨t1,t2,t3,t4,rfl⟩:∃t1 t2 t3 t4,l=[t1,t2,t3,t4]:=by
   match l,h1 with
   |[a1,a2,a3,a4],_=>exact⟨a1,a2,a3,a4,rfl⟩
  obtain⟨b,o,rfl,hb,q1,hz1⟩:=hL.word (k:=1) (t:=t1) (by rw[hT];rfl) (d:=3) rfl;obtain⟨b',o',e',-,q2,hz2⟩:=hL.word (k:=2) (t:=t2) (by rw[hT];rfl) (d:=6) rfl;obtain⟨rfl,rfl⟩:b=b'/\o=o':=by simpa using e'
  clear e';obtain⟨b',o',e',-,q3,hz3⟩:=hL.word (k:=3) (t:=t3) (by rw[hT];rfl) (d:=9) rfl;obtain⟨rfl,rfl⟩:b=b'/\o=o':=by simpa using e'
  clear e';obtain⟨b',o',e',-,q4,TK⟩:=hL.word (k:=4) (t:=t4) (by rw[hT];rfl) (d:=12) rfl;obtain⟨rfl,rfl⟩:b=b'/\o=o':=by simpa using e'
  clear e';simp only[ay,ln] at hn;subst hn;have HP:=hd0 hP;obtain⟨G',c9',ci,gv,-,-,hGb,jS,Bc,uM⟩:=hP.aoz hs;obtain⟨rfl,hn0,rfl⟩:G'=G/\init.length+1=n0/\c9'=c9:=by rw[gv] at h0;simpa using h0
  have hpb:G'<w.heap.size:=hGb;obtain⟨A0,c0,hv⟩:=hP.slice (i:=11) (by decide);have kp:w.cell? ⟨G',q+6,none⟩=some (rv 11).v:=by rw[hq];exact jS 6 (by decide)
  rw[hv] at kp;have hfew:=hP.few 11 (by decide);have HR:Hid (iT s [t1,t2,t3,t4]=if ja anchorNames t1=0 then .error 22 else fin (fB 0 [t2,t3,t4]) {s with f:= {s.f with anL:=init++[{g with anchors:=g.anchors++[⟨ja anchorNames t1,aI t2,aI t3,aI t4⟩]}]}}):=by show _=_;unfold iT;rw[if_neg (xI hs)];simp only;rw[uw s _ hs]
  have Hs:=hd0 hs;have Hq:=hd0 hq;have H0:=hd0 h0;have uQ:=hd0 uM;have rV:=hd0 (fun w rb er h=>dP w rb p er t2 h hz2);have HI2:=hd0 (dI t2);have AP:=hd0 (fun w rb er h=>dP w rb p er t3 h hz3);have HI3:=hd0 (dI t3);have PZ:=hd0 (fun w rb er h=>dP w rb p er t4 h TK);have HI4:=hd0 (dI t4);generalize aI t2=v2 at*
  generalize aI t3=v3 at*
  generalize aI t4=v4 at*
  obtain⟨ty,fz,hbt⟩:=fF.anch;have agi:2<w.heap.size:=fF.anch.lt;have hix:=hd0 V7;have hsz:=YR;generalize (strs anchorNames).toArray=cs at*
  have OV:=hd0 (show(Tryz.prog.info? 205).map (·.size)=some cs.size by rw[hsz];kernel_rfl);have Hbt:Hid ((w.alloc (.cells #[.int .i64 0,.int .i64 0,.int .i64 0,.int .i64 0] AY)).heap[2]? =some (.cells cs ty fz)):=(Below.heap_alloc w _ _ agi).trans hbt;have HD1:Hid (Bk (w.alloc (.cells #[.int .i64 0,.int .i64 0,.int .i64 0,.int .i64 0] AY)) w.heap.size AY #[.int .i64 0,.int .i64 0,.int .i64 0,.int .i64 0]):=Bk.new _ _ _;have HB1:Hid (Below w.heap.size w (w.alloc (.cells #[.int .i64 0,.int .i64 0,.int .i64 0,.int .i64 0] AY))):=hd0 ((aqk _ _).alloc (ag _) _);clear hsz hP hL hT hz1 hz2 hz3 TK fF hs hq h0 gv jS Bc uM hn0 h1 hbt agi;have HQ1:=hd0 q1;have HQ2:=hd0 q2;have HQ3:=hd0 q3;have HQ4:=hd0 q4;clear q1 q2 q3 q4;go_enter Tryz.func83,Tryz.ntmps83
  go_wp2_with (refine wpList_load_row rfl 205 (.global 2) rfl 2 rfl ty cs fz _ Hbt.out Tryz.underlying205 rfl OV.out ?_)
  go_loopw [15] (fun i wr=>∃(k:Nat) (kv:Int),k<=4/\i= .int .i64 k/\Hid (aoH t1 k kv)/\Bk wr w.heap.size AY #[.int .i64 kv,.int .i64 0,.int .i64 0,.int .i64 0]/\Below w.heap.size w wr) (fun i _=>4 - (intOf i).toNat)
  case atStart=>exact⟨0,0,by omega,rfl,.inl ⟨rfl,fun j s hj=>by omega⟩,HD1.out,HB1.out⟩
  case round=>
   obtain⟨k,kv,hk,rfl,hl,hD,hbw⟩:=hrel;have d0:wr.cell? ⟨w.heap.size,0,none⟩=some (.int .i64 kv):=hD.cell 0;have d1:=hD.frozen 0;have q1:wr.cell? ⟨b,o+3+2,none⟩=some (.string ⟨t1.toArray⟩):=((af hbw).1 _ _ hb).trans HQ1.out;have hzw:=hD.lt;by_cases hlt:k<4
   ·obtain⟨nm,hsn⟩:∃nm,anchorNames[k]? =some nm:=⟨_,aqn (by rw[zS];exact hlt)⟩
    have hrun:=hix.out k nm hsn;by_cases he:nm=t1
    ·have e1:(nm==t1)=true:=by simp[he]
     have hnx:=hd0 (hl.out.hit hsn he);have HD2:=hd0 (hD.set 0 (.int .i64 ((k:Int)+1)));have HB2:=hd0 (hbw.setCell (p:=⟨w.heap.size,0,none⟩) (ag _) (.int .i64 ((k:Int)+1)));clear hsn he hD hbw hl;go_wp2;go_roundw
     case rel=>exact⟨k+1,(k:Int)+1,by omega,by simp,hnx,HD2.out,HB2.out⟩
     case measure=>simp[intOf];omega
    have e1:(nm==t1)=false:=by simpa using he
    have hnx:=hd0 (hl.out.miss hsn he);have HD2:=hd0 hD;have HB2:=hd0 hbw;clear hsn he hD hbw hl;go_wp2;go_roundw
    case rel=>exact⟨k+1,kv,by omega,by simp,hnx,HD2.out,HB2.out⟩
    case measure=>simp[intOf];omega
   obtain rfl:k=4:=by omega
   have hkn:=hl.out.done (ag _);have HIk:=hd0 (hl.out.i64 (ag _));by_cases hkv:kv=0
   ·have HR2:Hid (iT s [t1,t2,t3,t4]= .error 22):=by
     show _=_;rw[HR.out,if_pos (by rw[hkn,hkv])]
    subst hkv;have HB2:=hd0 hbw;clear hD hbw hl hkn HIk;go_wp2;go_ret
    exact anQ.bad HR2.out (HB2.out.mono hB)
   have HR2:Hid (iT s [t1,t2,t3,t4]=fin (fB 0 [t2,t3,t4]) {s with f:= {s.f with anL:=init++[{g with anchors:=g.anchors++[⟨kv,v2,v3,v4⟩]}]}}):=by show _=_;rw[HR.out,if_neg (by rw[hkn];exact hkv),hkn]
   have e1:(kv==0)=false:=by simpa using hkv
   have HD2:=hd0 hD;have HB2:=hd0 hbw;clear hD hbw hl hkn hkv;go_wp2_with fail
   refine(gu wr p).mono ?_;rintro e w1 ⟨rfl,hr1,hb1⟩;have hl1:=hr1.lt;have Hb1:Hid (Below w.heap.size w w1):=HB2.out.trans (hb1.mono HB2.out.size);have oO:Hid (Bk w1 w.heap.size AY #[.int .i64 kv,.int .i64 0,.int .i64 0,.int .i64 0]):=HD2.out.keep (hb1.block w.heap.size hzw);have kW:=hd0 hr1;clear hr1 hb1;have hbl:b≠w.heap.size:=by omega
   have hpc:G'≠w.heap.size:=by omega
   have hrw:wr.heap.size≠w.heap.size:=by omega
   have hz0:w.heap.size<=wr.heap.size:=by omega
   have p1:w1.cell? ⟨b,o+6+2,none⟩=some (.string ⟨t2.toArray⟩):=((af Hb1.out).1 _ _ hb).trans HQ2.out;go_wp2_with fail
   refine(rV.out _ _ _ (by exact kW.out)).mono ?_;rintro e w2 ⟨rfl,hr2,hg2⟩;have hb2:=bz Hb1.out hg2 hz0;have hk2:Bk w2 w.heap.size AY #[.int .i64 kv,.int .i64 0,.int .i64 0,.int .i64 0]:=Bk.kept2 hg2 oO.out (by omega);have BM:w2.cell? ⟨w.heap.size,1,none⟩=some (.int .i64 0):=hk2.cell 1;have y2:=hk2.frozen 1;have hs2:=hk2.lt;have p2:w2.cell? ⟨b,o+9+2,none⟩=some (.string ⟨t3.toArray⟩):=((af hb2).1 _ _ hb).trans HQ3.out;have lT:Hid (Rdr (w2.setCell ⟨w.heap.size,1,none⟩ (.int .i64 v2)) wr.heap.size p (aT 0 t2)):=Bk.far hr2 (by simp;omega) _;have Hb2:=hd0 (hb2.setCell (p:=⟨w.heap.size,1,none⟩) (ag _) (.int .i64 v2));have fC:Hid (Bk (w2.setCell ⟨w.heap.size,1,none⟩ (.int .i64 v2)) w.heap.size AY #[.int .i64 kv,.int .i64 v2,.int .i64 0,.int .i64 0]):=hk2.set 1 _;clear hr2 hg2 hb2 hk2;go_wp2_with fail
   refine(AP.out _ _ _ (by exact lT.out)).mono ?_;rintro e w3 ⟨rfl,hr3,hg3⟩;have hb3:=bz Hb2.out hg3 hz0;have hk3:Bk w3 w.heap.size AY #[.int .i64 kv,.int .i64 v2,.int .i64 0,.int .i64 0]:=Bk.kept2 hg3 fC.out (by omega);have aab:w3.cell? ⟨w.heap.size,2,none⟩=some (.int .i64 0):=hk3.cell 2;have y3:=hk3.frozen 2;have hs3:=hk3.lt;have p3:w3.cell? ⟨b,o+12+2,none⟩=some (.string ⟨t4.toArray⟩):=((af hb3).1 _ _ hb).trans HQ4.out;have lY:Hid (Rdr (w3.setCell ⟨w.heap.size,2,none⟩ (.int .i64 v3)) wr.heap.size p (aT (aT 0 t2) t3)):=Bk.far hr3 (by simp;omega) _;have Hb3:=hd0 (hb3.setCell (p:=⟨w.heap.size,2,none⟩) (ag _) (.int .i64 v3));have jI:Hid (Bk (w3.setCell ⟨w.heap.size,2,none⟩ (.int .i64 v3)) w.heap.size AY #[.int .i64 kv,.int .i64 v2,.int .i64 v3,.int .i64 0]):=hk3.set 2 _;clear hr3 hg3 hb3 hk3;go_wp2_with fail
   refine(PZ.out _ _ _ (by exact lY.out)).mono ?_;rintro e w4 ⟨rfl,hr4,hg4⟩;have hb4:=bz Hb3.out hg4 hz0;have hk4:Bk w4 w.heap.size AY #[.int .i64 kv,.int .i64 v2,.int .i64 v3,.int .i64 0]:=Bk.kept2 hg4 jI.out (by omega);have afQ:w4.cell? ⟨w.heap.size,3,none⟩=some (.int .i64 0):=hk4.cell 3;have y4:=hk4.frozen 3;have hs4:=hk4.lt;have Y7:Hid (Rdr (w4.setCell ⟨w.heap.size,3,none⟩ (.int .i64 v4)) wr.heap.size p (aT (aT (aT 0 t2) t3) t4)):=Bk.far hr4 (by simp;omega) _;have Hb4:=hd0 (hb4.setCell (p:=⟨w.heap.size,3,none⟩) (ag _) (.int .i64 v4));have Zo:Hid (Bk (w4.setCell ⟨w.heap.size,3,none⟩ (.int .i64 v4)) w.heap.size AY #[.int .i64 kv,.int .i64 v2,.int .i64 v3,.int .i64 v4]):=hk4.set 3 _;clear hr4 hg4 hb4 hk4;go_wp2_with fail
   obtain⟨W1,hW1⟩:∃W1,w4.setCell ⟨w.heap.size,3,none⟩ (.int .i64 v4)=W1:=⟨_,rfl⟩
   rw[hW1];have Hr:=Y7;have Hb:=Hb4;have eX:=Zo;rw[hW1] at Hr Hb eX;have vC:W1.cell? ⟨w.heap.size,0,none⟩=some (.int .i64 kv):=eX.out.cell 0;have xE:W1.cell? ⟨w.heap.size,1,none⟩=some (.int .i64 v2):=eX.out.cell 1;have AZ:W1.cell? ⟨w.heap.size,2,none⟩=some (.int .i64 v3):=eX.out.cell 2;have BG:W1.cell? ⟨w.heap.size,3,none⟩=some (.int .i64 v4):=eX.out.cell 3;have aO:=HP.out.below Hb.out;have xX:W1.cell? ⟨G',q+6,none⟩=some (.slice A0 (rv 11).n c0):=((af Hb.out).1 _ _ hpb).trans kp;have zp:G'<W1.heap.size:=aqu hpb Hb.out.size;have zc:w.heap.size<W1.heap.size:=eX.out.lt;have zr:wr.heap.size<W1.heap.size:=Hr.out.lt;have hown:=aO.live.own 11 (by decide);rw[hv] at hown;obtain⟨A5,c5,w9,hrun,aZ,aB,bD⟩:=iw Yr 55 W1 Bd _ c0 A0 _ #[.int .i64 kv,.int .i64 v2,.int .i64 v3,.int .i64 v4] rfl hown (by simp[Value.oneCell']) (by omega) (by omega);rw[<-hv] at aB bD;have bT:∃cur,Bk w9 G' 59 cur/\cur[q+6]? =some (rv 11).v:=by obtain⟨cur,di⟩:=uQ.out;have h1:Bk w9 G' 59 cur:=Bk.grown (di.keep (Hb.out.block G' hpb)) aB (aO.live.own 11 (by decide)) (by decide);exact⟨cur,h1,by rw[<-di.cell,kp,hv]⟩
   obtain⟨J8,bT,sU⟩:=bT;have jB:=Bk.grown Hr.out aB (aO.live.own 11 (by decide)) (by decide);have x9:w9.cell? ⟨G',q+6,none⟩=some (rv 11).v:=(bT.cell _).trans sU;have y9:=bT.frozen (q+6);have z9:w9.cell? ⟨wr.heap.size,1,none⟩=some (.int .i64 (aT (aT (aT 0 t2) t3) t4)):=jB.cell 1;have aiN:Hid (fB 0 [t2,t3,t4]=(aT (aT (aT 0 t2) t3) t4)):=rfl;rw[aiN.out] at HR2;generalize her:(aT (aT (aT 0 t2) t3) t4)=er at*
   have bP:=hd0 (PSt.apB (m:=1) (K':=K+(0+1+1+1+1+1)) aO Hs.out H0.out aB aZ bD (ys:=[⟨kv,v2,v3,v4⟩]) rfl (Fl.one (R:=an2) (⟨rfl,HIk.out,HI2.out,HI3.out,HI4.out⟩) rfl) (by omega));rw[<-Hq.out] at bP;have ik:=hd0 (Hb.out.mono hB);have HQ:=hd0 (KQ.below (cm:=cm) Hb.out);clear hW1 hown aZ aB bD bT jB aO sU;go_region
   all_goals
    go_wp2;go_ret
    obtain⟨rv',g1,g2,g3,-⟩:=bP.out;exact anQ.fin HR2.out (ik.out.trans g3) (HQ.out.trans g2) g1
 have HR:=hd0 (WV s l h1);have e1:((n:Int)==5)=false:=by simp;omega
 have e2:((n:Int) !=5)=true:=by simp;omega
 clear hP hL hT h1 hn hs h0 hq;go_enter Tryz.func83,Tryz.ntmps83
 go_wp2;go_ret
 exact anQ.bad HR.out (aqk _ _)
end
section
theorem anQ.apn {w w':World}{Bd p gm cm:Nat}{gl:Gl}{K:Nat}{r:Ans}{e:Ending}(h:anQ w.drew Bd p gm cm gl K r e w'):anQ w Bd p gm cm gl K r e w':=by
 obtain⟨h1,h2⟩:=h;refine⟨⟨h1.os,h1.tape,h1.output,h1.size,h1.block⟩,?_⟩;cases r with
 |ok s=>exact⟨h2.1,⟨h2.2.1.same,h2.2.1.size⟩,h2.2.2⟩
 |error e=>exact h2
theorem anQ.ret {w w':World}{Bd p gm cm:Nat}{gl:Gl}{K:Nat}{r:Ans}{e:Ending}(h:anQ w Bd p gm cm gl K r e w'):∃v:Int,e= .returned (.int .i64 v):=by
 obtain⟨h1,h2⟩:=h;cases r with
 |ok s=>exact⟨0,h2.1⟩
 |error e=>exact⟨e,h2⟩
theorem pO (F:Nat)(hE:∀(args:Array Value) (w:World),(callFunc F args).run Tryz.prog w= .ok (.enter F args) w)(w:World)(Bd p gm cm:Nat)(gl:Gl)(s:PS)(rv:Rows)(K K2:Nat)(A:Option Addr)(n c c1 c2:Nat)(r:Ans)
  (hP:PSt w Bd p gm cm gl s rv K) (k1:w.cell? ⟨c1,0,none⟩=some (.pointer (some ⟨p,0,none⟩))) (k2:w.cell? ⟨c2,0,none⟩=some (.func (.func F) #[.pointer (some ⟨p,0,none⟩)] #[])) (h0:s.f.anL=[]->r= .error 22)
  (h1:∀init g,s.f.anL=init++[g]->∀G n0 c9,(rv 0).v= .slice (some ⟨G,0,none⟩) n0 c9->Calls Tryz.prog F #[.pointer (some ⟨p,0,none⟩),.slice A n c,.pointer (some ⟨G,init.length*9,none⟩)] w.drew (anQ w.drew Bd p gm cm gl K2 r)) (hK:K<=10000000000):
  Calls Tryz.prog 129 #[.slice A n c,.pointer (some ⟨c1,0,none⟩),.pointer (some ⟨c2,0,none⟩)] w (anQ w Bd p gm cm gl K2 r):=by
 have hfew:=hP.few 0 (by decide);have kp:w.cell? ⟨p,1,none⟩=some (rv 0).v:=hP.par.cell 1;have hlen:=hP.fnt.gly.1;rcases List.eq_nil_or_concat s.f.anL with hg|⟨init,g,hg⟩
 ·obtain⟨A0,c0,hv⟩:=hP.slice (i:=0) (by decide);rw[hg] at hlen;rw[hv,hlen] at kp;have HR:=hd0 (h0 hg);have HB:=hd0 hP.size;clear hP h0 h1 hg hlen hfew;go_enter Tryz.func129,Tryz.ntmps129
  go_wp2_with fail
  go_ret
  exact anQ.bad HR.out (aqk _ _)
 rw[List.concat_eq_append] at hg;obtain⟨G,c0,ci,e1,-,-,hGb,-⟩:=hP.aoz hg;have hc:=hd0 (h1 init g hg _ _ _ e1);rw[e1] at kp;rw[hg] at hlen;have hi:init.length+1<=10000000000:=by rw[az] at hlen;simp only[ay,ln] at hlen;omega
 clear hP h0 h1 hg hlen hfew;go_enter Tryz.func129,Tryz.ntmps129
 go_wp2_with fail
 go_region_with (refine hc.out.mono ?_;rintro e w2 hpost;obtain⟨ev,rfl⟩:=hpost.ret;have HP2:=hd0 hpost;clear hpost)
 all_goals
  go_wp2;go_ret
  exact HP2.out.apn
theorem PL (F:Nat)(hE:∀(args:Array Value) (w:World),(callFunc F args).run Tryz.prog w= .ok (.enter F args) w)(w:World)(Bd p gm cm:Nat)(gl:Gl)(s:PS)(rv:Rows)(K K2:Nat)(A:Option Addr)(n c c1 c2:Nat)(r:Ans)
  (hP:PSt w Bd p gm cm gl s rv K) (k1:w.cell? ⟨c1,0,none⟩=some (.pointer (some ⟨p,0,none⟩))) (k2:w.cell? ⟨c2,0,none⟩=some (.func (.func F) #[.pointer (some ⟨p,0,none⟩)] #[])) (h0:s.f.anM=[]->r= .error 22)
  (h1:∀init g,s.f.anM=init++[g]->∀G n0 c9,(rv 2).v= .slice (some ⟨G,0,none⟩) n0 c9->Calls Tryz.prog F #[.pointer (some ⟨p,0,none⟩),.slice A n c,.pointer (some ⟨G,init.length*3,none⟩)] w.drew (anQ w.drew Bd p gm cm gl K2 r)) (hK:K<=10000000000):
  Calls Tryz.prog 133 #[.slice A n c,.pointer (some ⟨c1,0,none⟩),.pointer (some ⟨c2,0,none⟩)] w (anQ w Bd p gm cm gl K2 r):=by
 have hfew:=hP.few 2 (by decide);have kp:w.cell? ⟨p,3,none⟩=some (rv 2).v:=hP.par.cell 3;have hlen:=hP.fnt.lks.1;rcases List.eq_nil_or_concat s.f.anM with hg|⟨init,g,hg⟩
 ·obtain⟨A0,c0,hv⟩:=hP.slice (i:=2) (by decide);rw[hg] at hlen;rw[hv,hlen] at kp;have HR:=hd0 (h0 hg);have HB:=hd0 hP.size;clear hP h0 h1 hg hlen hfew;go_enter Tryz.func133,Tryz.ntmps133
  go_wp2_with fail
  go_ret
  exact anQ.bad HR.out (aqk _ _)
 rw[List.concat_eq_append] at hg;obtain⟨G,c0,ci,e1,-,-,hGb,-⟩:=hP.ao4 hg;have hc:=hd0 (h1 init g hg _ _ _ e1);rw[e1] at kp;rw[hg] at hlen;have hi:init.length+1<=10000000000:=by rw[az] at hlen;simp only[ay,ln] at hlen;omega
 clear hP h0 h1 hg hlen hfew;go_enter Tryz.func133,Tryz.ntmps133
 go_wp2_with fail
 go_region_with (refine hc.out.mono ?_;rintro e w2 hpost;obtain⟨ev,rfl⟩:=hpost.ret;have HP2:=hd0 hpost;clear hpost)
 all_goals
  go_wp2;go_ret
  exact HP2.out.apn
attribute [-go_sem] Builtin.append_
theorem goT (op:Bool)(row:List P3)(told:List (List P3))(ws:List P3):fE op (ah row) (told.map ah) (ah ws)=(dm op row told ws).map (List.map ah):=by
 induction ws generalizing op row told with
 |nil=>show fE op (ah row) (told.map ah) []=_;rw[fE,dm];cases op<;>rfl
 |cons w r ih=>
  show fE op (ah row) (told.map ah) (w.2.2::ah r)=_;rw[fE,dm];by_cases h1:w.2.2=[91]
  ·rw[if_pos h1,if_pos h1];cases op
   ·exact ih true [] told
   rfl
  rw[if_neg h1,if_neg h1];by_cases h2:w.2.2=[93]
  ·rw[if_pos h2,if_pos h2];cases op
   ·rfl
   have:=ih false [] (told++[row]);rw[aqY] at this;exact this
  rw[if_neg h2,if_neg h2];cases op
  ·have:=ih false [] (told++[[w]]);rw[aqY] at this;exact this
  have:=ih true (row++[w]) told;rw[show ah (row++[w])=ah row++[w.2.2] by simp[ah]] at this;exact this
theorem mJ (ws:List P3):fD (ah ws)=(jc ws).map (List.map ah):=goT false [] [] ws
theorem ZQ (op:Bool)(row:List P3)(told:List (List P3))(ws:List P3)(rows:List (List P3))(h:dm op row told ws=some rows):rows.length<=told.length+ws.length/\∀r∈rows,r∈told\/r.length<=row.length+ws.length:=by
 induction ws generalizing op row told with
 |nil=>
  rw[dm] at h;cases op
  ·cases h;exact⟨by simp,fun r hr=> .inl hr⟩
  cases h
 |cons w r ih=>
  rw[dm] at h;by_cases h1:w.2.2=[91]
  ·rw[if_pos h1] at h;cases op
   ·obtain⟨g1,g2⟩:=ih true [] told h;refine⟨by simp only[ay];omega,fun x hx=>(g2 x hx).imp id fun g=> ?_⟩;simp only[ay,ln] at g ⊢;omega
   cases h
  rw[if_neg h1] at h;by_cases h2:w.2.2=[93]
  ·rw[if_pos h2] at h;cases op
   ·cases h
   obtain⟨g1,g2⟩:=ih false [] (told++[row]) h;refine⟨by simp only[ay,az,ln] at g1 ⊢;omega,fun x hx=> ?_⟩;rcases g2 x hx with g|g
   ·rcases aqp.1 g with g|g
    ·exact .inl g
    simp only[aql] at g;subst g;exact .inr (by omega)
   exact .inr (by simp only[ay,ln] at g ⊢;omega)
  rw[if_neg h2] at h;cases op
  ·obtain⟨g1,g2⟩:=ih false [] (told++[[w]]) h;refine⟨by simp only[ay,az,ln] at g1 ⊢;omega,fun x hx=> ?_⟩;rcases g2 x hx with g|g
   ·rcases aqp.1 g with g|g
    ·exact .inl g
    simp only[aql] at g;subst g;exact .inr (by simp only[ay,ln];omega)
   exact .inr (by simp only[ay,ln] at g ⊢;omega)
  obtain⟨g1,g2⟩:=ih true (row++[w]) told h;refine⟨by simp only[ay];omega,fun x hx=>(g2 x hx).imp id fun g=> ?_⟩;simp only[ay,az,ln] at g ⊢;omega
theorem vX {ws:List P3}{rows:List (List P3)}(h:jc ws=some rows):rows.length<=ws.length/\∀r∈rows,r.length<=ws.length:=by obtain⟨h1,h2⟩:=ZQ _ _ _ _ _ h;exact⟨by simpa using h1,fun r hr=>(h2 r hr).elim (fun g=>by simp at g) (fun g=>by simpa using g)⟩
theorem GM (gl:Gl)(cls:List (B×List Int))(er:Int)(he:er≠0)(acc:List Int)(l:List B):(bu gl cls er acc l).1=er:=by
 cases l with
 |nil=>rfl
 |cons t r=>
  have h:(gW gl cls er acc t).1=er:=by
   unfold gW;split
   ·split
    ·rfl
    show eC er 23=er;unfold eC;rw[if_neg he]
   show jE gl er t=er;unfold jE;rw[if_neg (by intro h;exact he h.1)]
  rw[bu,if_pos (by rw[h];exact he)];exact h
theorem agp (gl:Gl)(cls:List (B×List Int))(acc:List Int)(t:B):(∃e,mW gl cls t= .error e/\e≠0/\(gW gl cls 0 acc t).1=e)\/(∃c,mW gl cls t= .ok c/\gW gl cls 0 acc t=(0,acc++c)):=by
 unfold gW;rcases Ru t with⟨r,h1,h2,h3⟩|⟨h1,h2,h3⟩
 ·rw[h3,h2];subst h1;show(∃e,mW gl cls (64::r)=_/\_)\/_;have hs:mW gl cls (64::r)=match cls.lookup r with|some c=> .ok c|none=> .error 23:=rfl
  rw[hs];cases cls.lookup r with
  |none=>exact .inl ⟨23,rfl,by decide,rfl⟩
  |some c=>exact .inr ⟨c,rfl,rfl⟩
 rw[h2,h1];have hs:mW gl cls t=match gl.lookup t with|some n=> .ok [(n:Int)]|none=> .error 23:=by
  unfold mW;split
  ·rename_i r;exact absurd rfl (h3 r)
  rfl
 rw[hs];simp only[Bool.false_eq_true,if_false];unfold jE fM;cases gl.lookup t with
 |none=>exact .inl ⟨23,rfl,by decide,rfl⟩
 |some n=>exact .inr ⟨[(n:Int)],rfl,rfl⟩
theorem C9 (gl:Gl)(cls:List (B×List Int))(acc:List Int)(l:List B)(ha:acc.length<=1000):(∃e,kZ gl cls acc l= .error e/\e≠0/\(bu gl cls 0 acc l).1=e)\/(∃g,kZ gl cls acc l= .ok g/\bu gl cls 0 acc l=(0,g)/\g.length<=1000):=by
 induction l generalizing acc with
 |nil=>exact .inr ⟨acc,rfl,rfl,ha⟩
 |cons t r ih=>
  rcases agp gl cls acc t with⟨e,h1,h2,h3⟩|⟨c,h1,h2⟩
  ·refine .inl ⟨e,by rw[kZ,h1],h2,?_⟩;rw[bu,if_pos (by rw[h3];exact h2)];exact h3
  rw[kZ,h1];by_cases h4:1000<(acc++c).length
  ·refine .inl ⟨2,by simp only[if_pos h4],by decide,?_⟩;rw[EW h2 h4]
  simp only[if_neg h4];rw[Rh h2 (by omega)];exact ih (acc++c) (by omega)
section
variable {w w':World} {Bd p gm cm:Nat} {gl:Gl} {s:PS} {rv:Rows} {K:Nat}
theorem PSt.aps (h:PSt w Bd p gm cm gl s rv K){t:B}{l:List Int}{A:Option Addr}{c:Nat}(hsl:Sl anO 1 w (Fz w rv) A l)(hl:l.length<=2000)(hn:s.cls.lookup t=none){f:B->Option Value}
  (hf:∀t,(s.cls.lookup t=none/\f t=none)\/∃l A c,s.cls.lookup t=some l/\f t=some (.slice A l.length c)/\Sl anO 1 w (Fz w rv) A l/\l.length<=2000)
  (hm:an0 mD w' cm (fun t'=>if t'=t then some (.slice A l.length c) else f t')) (hg:w.grownBy w' (some cm)):
  PSt w' Bd p gm cm gl {s with cls:=s.cls++[(t,l)]} rv K/\KQ cm w w'/\Below Bd w w':=by
 obtain⟨f0,f1,f2⟩:=h.cls;have hr':∀g,some cm=some g->∀t cs,Bk w g t cs->lK t=false:=fun g e t' cs' hb=>by
  injection e with e
  subst e;exact(f1.aoO hb).elim
 have ht:Tr w rv w' rv:=Tr.other hg hr';refine⟨{par:=h.par.keep (hg.block p h.par.lt fun e=> ?_),live:=h.live.other hg hr',fnt:=h.fnt.tr ht,gmp:=h.gmp.grown hg fun e=> ?_,glI:=h.glI,cls:=⟨_,hm,fun x=> ?_⟩,few:=h.few,low:=h.low},KQ.row hg fun g e=> ?_,(aqk Bd w).grown hg h.size (fun g e=> ?_)⟩
 ·injection e with e
  subst e;exact f1.aoO h.par
 ·injection e with e
  exact h.low.2.2.2 e
 ·show((s.cls++[(t,l)]).lookup x=none/\_)\/_;rw[List.lookup_append];by_cases hx:x=t
  ·subst hx;refine .inr ⟨l,A,c,?_,if_pos rfl,ht.sl anO.ok hsl,hl⟩;rw[hn];simp
  rw[if_neg hx];have hxt:(x==t)=false:=by simpa using hx
  have h0:([(t,l)]:List (B×List Int)).lookup x=none:=by simp[List.lookup,hxt]
  rw[h0,Option.or_none];rcases hf x with g|⟨l',A',c',e1,e2,e3,e4⟩
  ·exact .inl g
  exact .inr ⟨l',A',c',e1,e2,ht.sl anO.ok e3,e4⟩
 ·injection e with e
  subst e;obtain⟨es,ck,hh⟩:=f1.isMap;exact⟨_,hh,fun hk=>hk rfl⟩
 injection e with e
 subst e;exact h.low.2.2.1
end
theorem Ez (gl:Gl)(s:PS)(t1:B)(r:List B)(h:∀row,fD r≠some [row]):je gl s (t1::r)= .error 22:=by
 show(match fD r with|some [row]=>_|_=>_)=_;split
 ·rename_i row he;exact absurd he (h row)
 rfl
theorem Eo (gl:Gl)(s:PS)(t1:B)(r row:List B)(h:fD r=some [row]):je gl s (t1::r)=if bI 0 t1≠0 then .error (bI 0 t1) else match kZ gl s.cls [] row with
   | .error e=> .error e
   | .ok g=>if(s.cls.lookup t1).isSome then .error 24 else .ok {s with cls:=s.cls++[(t1,g)]} :=by
 show(match fD r with|some [row]=>_|_=>_)=_;rw[h];rfl
theorem Xh (gl:Gl)(s:PS)(t1:B)(r row:List B)(h:fD r=some [row])(he:(bu gl s.cls (bI 0 t1) [] row).1≠0):je gl s (t1::r)= .error (bu gl s.cls (bI 0 t1) [] row).1:=by
 rw[Eo gl s t1 r row h];by_cases h0:bI 0 t1=0
 ·rw[h0] at he ⊢;rw[if_neg (by simp)];rcases C9 gl s.cls [] row (by simp) with⟨e,h1,h2,h3⟩|⟨g,h1,h2,h3⟩
  ·rw[h1,h3]
  rw[h2] at he;exact absurd rfl he
 rw[if_pos h0,GM _ _ _ h0]
theorem Zh (gl:Gl)(s:PS)(t1:B)(r row:List B)(h:fD r=some [row])(he:(bu gl s.cls (bI 0 t1) [] row).1=0):je gl s (t1::r)=(if(s.cls.lookup t1).isSome then .error 24 else .ok {s with cls:=s.cls++[(t1,(bu gl s.cls (bI 0 t1) [] row).2)]})/\(bu gl s.cls (bI 0 t1) [] row).2.length<=1000:=by
 rw[Eo gl s t1 r row h];by_cases h0:bI 0 t1=0
 ·rw[h0] at he ⊢;rw[if_neg (by simp)];rcases C9 gl s.cls [] row (by simp) with⟨e,h1,h2,h3⟩|⟨g,h1,h2,h3⟩
  ·exact absurd (h3.symm.trans he) h2
  rw[h1,h2];exact⟨rfl,h3⟩
 rw[GM _ _ _ h0] at he;exact absurd he h0
theorem Uz (gl:Gl)(cls:List (B×List Int))(hg:∀t n,gl.lookup t=some n->n<=1000000000)(hc:∀t l,cls.lookup t=some l->∀x∈l,I64 x)(er:Int)(acc:List Int)(ha:∀x∈acc,I64 x)(l:List B):∀x∈(bu gl cls er acc l).2,I64 x:=by
 have hw:∀er acc t,(∀x∈acc,I64 x)->∀x∈(gW gl cls er acc t).2,I64 x:=by
  intro er acc t ha;unfold gW;split
  ·split
   ·rename_i c hcl;intro x hx;rcases aqp.1 hx with h|h
    ·exact ha x h
    exact hc _ _ hcl x h
   exact ha
  intro x hx;rcases aqp.1 hx with h|h
  ·exact ha x h
  simp only[aql] at h;subst h;exact D8 hg t
 induction l generalizing er acc with
 |nil=>exact ha
 |cons t r ih=>
  rw[bu];split
  ·exact hw er acc t ha
  split
  ·exact hw er acc t ha
  exact ih _ _ (hw er acc t ha)
theorem Sl.ints {w:World}{S:Bs}{A:Option Addr}{l:List Int}(h:Sl anO 1 w S A l):∀x∈l,I64 x:=by intro x hx;obtain⟨k,hk⟩:=aqG.1 hx;obtain⟨b,o,x',_,_,hx',_,hi⟩:=h.int (aqm.1 hk).1;have:=hx'.out;rw[hk] at this;cases this;exact hi
theorem PSt.ap5 {w:World}{Bd p gm cm:Nat}{gl:Gl}{s:PS}{rv:Rows}{K:Nat}(h:PSt w Bd p gm cm gl s rv K):∀t l,s.cls.lookup t=some l->∀x∈l,I64 x:=by
 intro t l hl;obtain⟨f,h1,h2⟩:=h.cls;rcases h2 t with⟨g,_⟩|⟨l',A,c,e1,e2,e3,e4⟩
 ·rw[g] at hl;cases hl
 rw[e1] at hl;cases hl;exact e3.ints
end
section
attribute [-go_sem] Builtin.append_
theorem RJ (w:World)(gl:Gl)(s:PS)(t1:B)(r:List B)(ws2:List P3)(hw:ah ws2=r):(jc ws2=none->je gl s (t1::r)= .error 22)/\(∀rows,jc ws2=some rows->rows.length≠1->je gl s (t1::r)= .error 22)/\(∀row,jc ws2=some [row]->fD r=some [ah row]):=by
 have h:=mJ ws2;rw[hw] at h;refine⟨fun e=> ?_,fun rows e hl=> ?_,fun row e=> ?_⟩
 ·rw[e] at h;exact Ez _ _ _ _ fun row e'=>by rw[h] at e';cases e'
 ·rw[e] at h;refine Ez _ _ _ _ fun row e'=> ?_
  rw[h] at e';injection e' with e'
  have:=congrArg List.length e';simp at this;exact hl this
 rw[e] at h;exact h
theorem QW (w:World)(Bd p gm cm:Nat)(gl:Gl)(s:PS)(rv:Rows)(K:Nat)(A:Option Addr)(n c:Nat)(ws:List P3)(t:B)(l:List B)(hP:PSt w Bd p gm cm gl s rv K)(hL:aok w A n ws)(hT:ah ws=t::l)(hc:n<=c):
  Calls Tryz.prog 78 #[.pointer (some ⟨p,0,none⟩),.slice A n c] w (anQ w Bd p gm cm gl (K+n) (je gl s l)):=by
 have hn:n=l.length+1:=by rw[<-hL.length];exact dG hT
 have hB:=hP.size;have hnn:=hL.few;cases l with
 |nil=>
  have HR:Hid (je gl s []= .error 22):=rfl;simp only[ln] at hn;subst hn;clear hP hL hT hc;go_enter Tryz.func78,Tryz.ntmps78
  go_wp2;go_ret
  exact anQ.bad HR.out (aqk _ _)
 |cons t1 r=>
  have aft:=hL.length;obtain⟨A',hsub,hrd,hlen⟩:=hL.sub hc 2 2 rfl (by simp at hn;omega);obtain⟨b,o,rfl,hb,q1,hz1⟩:=hL.word (k:=1) (t:=t1) (by rw[hT];rfl) (d:=3) rfl;have hrest:ah (ws.drop 2)=r:=by rw[BL,hT];rfl
  obtain⟨c1,c2,c3⟩:=RJ w gl s t1 r (ws.drop 2) hrest;have hds:(ws.drop 2).length<=1000000000:=by rw[aq0];omega
  have hset:=hd0 (OB w (ws.drop 2) w.heap.size A' (n - 2) (c - 2) hrd.rd (ag _) (by omega));have HP:=hd0 hP;have hpb:p<w.heap.size:=hP.par.lt;have qL:=hd0 (fun w rb er h=>yU w rb p er t1 h);have hn2:2<=n:=by simp at hn;omega
  have en:((n:Int)<2)=False:=by simp;omega
  have HC1:=hd0 c1;have HC2:=hd0 c2;have KO:=hd0 c3;have QB:=hd0 hds;generalize ws.drop 2=ws2 at*
  clear hP hL hT hrd hlen hn hz1 hrest c1 c2 c3 hds;go_enter Tryz.func78,Tryz.ntmps78
  cases hsl:jc ws2 with
  |none=>
   have HR:=hd0 (HC1.out hsl);have hs2:∀e w',gQ 124 119 w ws2 e w'->e= .returned (.tuple #[.slice none 0 0,.bool false])/\Below w.heap.size w w':=fun e w' h=>by unfold gQ at h;rw[hsl] at h;exact h
   have HS2:=hd0 hs2;clear hs2 hsl;go_wp2_with fail
   refine hset.out.mono ?_;rintro e w1 hpost;obtain⟨rfl,hb1⟩:=HS2.out _ _ hpost;clear hpost;go_wp2;go_ret
   exact anQ.bad HR.out (hb1.mono hB)
  |some rows=>
   have hs2:∀e w',gQ 124 119 w ws2 e w'->∃v,e= .returned (.tuple #[v,.bool true])/\vY 124 119 w w' rows v:=fun e w' h=>by unfold gQ at h;rw[hsl] at h;exact h
   have HS2:=hd0 hs2;have HSL:=hd0 hsl;clear hs2 hsl;go_wp2_with fail
   refine hset.out.mono ?_;rintro e w1 hpost;obtain⟨v,rfl,A2,c2,hs,rfl,afG,hin,hb1⟩:=HS2.out _ _ hpost;have HB1:=hd0 hb1;have XY:=hd0 hin;have Hg:=hd0 afG;clear hpost hb1 hin afG;by_cases hone:rows.length=1
   ·obtain⟨row,rfl⟩:∃row,rows=[row]:=by
     match rows,hone with
     |[a],_=>exact⟨a,rfl⟩
    have hsT:=hd0 (KO.out row HSL.out);have hrow:=(vX HSL.out).2 row (by simp);have hds:=QB.out;obtain⟨Ar,kr,cr,hh0,hrr,hkc⟩:=XY.out.2 0 row rfl;obtain⟨b2,o2,Fh,rfl,hb2,afl⟩:=Hg.out.2 (by simp);have z2:w1.cell? ⟨b2,o2,none⟩=some (.slice Ar kr cr):=(hb2.cell o2).trans (afl 0 _ hh0);have CO:b2<w1.heap.size:=hb2.lt;have hkr:kr=row.length:=hrr.rd.aoE.symm;have air:kr<=1000000000:=by omega
    have HRR:=hd0 hrr;clear hrr hb2 afl hh0 hrow hds hone hkr;simp only[ay,ln,aq2];go_wp2_with fail
    refine(gu w1 p).mono ?_;rintro e w2 ⟨rfl,hr2,hb2⟩;have hs1:=HB1.out.size;have Hb2:Hid (Below w.heap.size w w2):=HB1.out.trans (hb2.mono hs1);have Qq:=hd0 (HRR.out.below hb2);have z3:w2.cell? ⟨b2,o2,none⟩=some (.slice Ar kr cr):=((af hb2).1 _ _ CO).trans z2;have q2:w2.cell? ⟨b,o+3+2,none⟩=some (.string ⟨t1.toArray⟩):=((af Hb2.out).1 _ _ hb).trans q1;have hl2:=hr2.lt;have hs2:=hb2.size;have lT:=hd0 hr2;have aiM:=hd0 hb2;clear hr2 hb2;go_wp2_with fail
    refine(qL.out _ _ _ (by exact lT.out)).mono ?_;rintro e w3 ⟨rfl,hr3,hg3⟩;have Hb3:=hd0 (bz Hb2.out hg3 hs1);have z4:w3.cell? ⟨b2,o2,none⟩=some (.slice Ar kr cr):=((af (bz aiM.out hg3 (ag _))).1 _ _ CO).trans z2;have Q4:=hd0 (J4 Qq.out lT.out hg3);have uX:=hd0 ((HP.out.below Hb3.out).at);have lY:=hd0 hr3;have hs3:=hg3.size;clear hr3 hg3;go_wp2_with fail
    refine(Y9 w3 w1.heap.size p gm cm gl s.cls (bI 0 t1) Ar kr cr row lY.out uX.out Q4.out air).mono ?_;rintro e w4 ⟨v,rfl,A5,c5,rfl,AV,pK,hg5⟩;have hb5:=bz Hb3.out hg5 hs1;have k5:w4.cell? ⟨w1.heap.size,1,none⟩=some (.int .i64 (bu gl s.cls (bI 0 t1) [] (ah row)).1):=pK.cell 1;by_cases her:(bu gl s.cls (bI 0 t1) [] (ah row)).1=0
    ·obtain⟨HRk,hle⟩:=Zh gl s t1 r (ah row) hsT.out her;have UZ:=Uz gl s.cls HP.out.glI HP.out.ap5 (bI 0 t1) [] (by simp) (ah row);rw[her] at k5;generalize (bu gl s.cls (bI 0 t1) [] (ah row)).2=res at*
     have aO:=HP.out.below hb5;obtain⟨f,hf1,hf2⟩:=aO.cls;have xX:w4.cell? ⟨p,11,none⟩=some (.map (some cm)):=aO.par.cell 11;have zp:p<w4.heap.size:=aO.par.lt;have hlk:=hf1.ao2 Tryz.underlying114 Tryz.underlying9 (UF _) t1;have hlk2:(Instr.lookup 114 (.map (some cm)) (.string ⟨t1.toArray⟩) true).run Tryz.prog w4= .ok (.tuple #[(f t1).getD (.slice none 0 0),.bool (f t1).isSome]) w4:=hlk;rcases hf2 t1 with⟨g1,g2⟩|⟨l9,A9,c9,g1,g2,g3,g4⟩
     ·have HR2:Hid (je gl s (t1::r)= .ok {s with cls:=s.cls++[(t1,res)]}):=by
       show _=_;rw[HRk,g1];rfl
      rw[g2] at hlk2;simp only[Option.getD_none,Option.isSome_none] at hlk2;obtain⟨w9,hput,rJ,aB⟩:=hf1.put Tryz.underlying114 Tryz.underlying9 t1 (.slice A5 res.length c5) g2;have acQ:(Instr.mapUpdate 114 (.map (some cm)) (.string ⟨t1.toArray⟩) (.slice A5 res.length c5)).run Tryz.prog w4= .ok () w9:=hput;have aaM:=hd0 (aO.aps (l:=res) (Sl.aow AV (BV _ _ _ UZ) (HP.out.fresh AV (by omega) (by decide)) (by decide)) (by omega) g1 hf2 rJ aB);have HQ:=hd0 (KQ.below (cm:=cm) hb5);have tN:=hd0 (hb5.mono hB);clear HRk hle UZ hf1 hf2 hlk hput rJ aB aO AV pK hg5 hb5 her g1 g2;go_wp2_with fail
      go_ret
      exact anQ.good HR2.out (tN.out.trans aaM.out.2.2) (HQ.out.trans aaM.out.2.1) (aaM.out.1.mono (aqA _ _))
     have HR2:Hid (je gl s (t1::r)= .error 24):=by show _=_;rw[HRk,g1];rfl
     rw[g2] at hlk2;simp only[Option.getD_some,Option.isSome_some] at hlk2;have tN:=hd0 (hb5.mono hB);clear HRk hle UZ hf1 hf2 hlk aO AV pK hg5 hb5 her g1 g2 g3 g4;go_wp2_with fail
     go_ret
     exact anQ.bad HR2.out tN.out
    have HR2:=hd0 (Xh gl s t1 r (ah row) hsT.out her);generalize (bu gl s.cls (bI 0 t1) [] (ah row)).1=er at*
    generalize (bu gl s.cls (bI 0 t1) [] (ah row)).2=res at*
    have e1:(er==0)=false:=by simpa using her
    have e2:(er !=0)=true:=by simpa using her
    have tN:=hd0 (hb5.mono hB);clear AV pK hg5 hb5 her;go_wp2_with fail
    go_ret
    exact anQ.bad HR2.out tN.out
   have HR:=hd0 (HC2.out rows HSL.out hone);have e1:((rows.length:Int)==1)=false:=by simp;omega
   have e2:((rows.length:Int) !=1)=true:=by simp;omega
   clear hone;go_wp2;go_ret
   exact anQ.bad HR.out (HB1.out.mono hB)
end
end Go.Proofs.YtkijckccfookeaaGreatDoor
