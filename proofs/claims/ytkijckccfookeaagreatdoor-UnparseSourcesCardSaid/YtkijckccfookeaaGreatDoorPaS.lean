/- Lemmas. -/
import Derived.Test.YtkijckccfookeaaGreatDoorV24
set_option linter.unusedVariables false
set_option linter.unusedSimpArgs false
set_option maxRecDepth 100000
set_option maxHeartbeats 32000000
namespace Go.Proofs.YtkijckccfookeaaGreatDoor
open Go.RowKit
attribute [-go_sem] Builtin.append_
theorem xI (L:List B)(t:B)(h:∀(j:Nat) (s:B),L[j]? =some s->s≠t):iR L t=0:=by rw[iR,if_neg];intro hm;obtain⟨j,hj⟩:=akG.1 hm;exact h j t hj rfl
theorem DK (L:List B)(t:B)(k:Nat)(h:L[k]? =some t)(hl:∀(j:Nat) (s:B),j<k->L[j]? =some s->s≠t):iR L t=(k:Int)+1:=by
 rw[iR,if_pos (akt h)];have:L.findIdx (· ==t)=k:=by rw[List.findIdx_eq (akn.1 h).1];obtain⟨hk,hg⟩:=akn.1 h;refine⟨by simp[hg],fun j hj=> ?_⟩;have:=hl j L[j] hj (ako (by omega));simpa using this
 rw[this]
theorem qi:az.length=8:=by decide
theorem C9 (k:Nat)(s:B)(h:az[k]? =some s)(w:World):(Instr.index 206 (.agg (strs az).toArray) (.int .i64 (k:Int))).run Tryz.prog w= .ok (.string ⟨s.toArray⟩) w:=by
 have hk:k<8:=by have:=(akn.1 h).1;rw[qi] at this;exact this
 have hs:=strs_get h;have hk2:(k:Int)<8:=by omega
 have hk3:(0:Int)<=k:=by omega
 simp[Instr.index,go_sem,hk2,hk3,hs];omega
theorem Fa:(strs az).toArray.size=8:=by simp[uJ,qi]
theorem Qh (s:PS)(l:List B)(h:l.length≠1)(h3:∀a,l≠[a,eP]):fV s l= .error 22:=by
 unfold fV;split
 ·rename_i k r;rw[if_neg];rintro(e|e)
  ·subst e;exact h rfl
  subst e;exact h3 _ rfl
 rfl
theorem Dj (s:PS)(t1:B)(r:List B)(hr:r=[]\/r=[eP]):fV s (t1::r)=if iR az t1=0 then .error 22 else .ok {s with f:= {s.f with ahP:=s.f.ahP++[⟨iR az t1,!r.isEmpty,[]⟩]}} :=by show(if r=[]\/r=[eP] then _ else _)=_;rw[if_pos hr]
theorem NQ (w:World)(Bd p gm cm:Nat)(gl:Gl)(s:PS)(rv:Rows)(K:Nat)(A:Option Addr)(n c:Nat)(ws:List P3)(t t1:B)(hP:PSt w Bd p gm cm gl s rv K)(hL:aif w A n ws)(hT:af ws=t::[t1])(hK:K<=10000000000)(jr:ain w):
  Calls Tryz.prog 87 #[.pointer (some ⟨p,0,none⟩),.slice A n c] w (ahS w Bd p gm cm gl (K+n) (fV s [t1])):=by
 have hn:n=2:=by rw[<-hL.length];exact dE hT
 have hB:=hP.size;obtain⟨b,o,rfl,hb,q1,hz1⟩:=hL.word (k:=1) (t:=t1) (by rw[hT];rfl) (d:=3) rfl;subst hn;have HP:=hd0 hP;have hpb:p<w.heap.size:=hP.par.lt;obtain⟨A0,c0,hv⟩:=hP.slice (i:=2) (by decide);have kp:w.cell? ⟨p,3,none⟩=some (rv 2).v:=hP.par.cell 3;rw[hv] at kp;have hfew:=hP.few 2 (by decide);have HR:=hd0 (Dj s t1 [] (by simp));obtain⟨ty,fz,hbt⟩:=jr.kinds;have hix:=hd0 C9;have hsz:=Fa;have hpost:Hid (∀k:Nat,(∀j s,j<k->az[j]? =some s->s≠t1)->((az[k]? =some t1->iR az t1=(k:Int)+1)/\(8<=k->iR az t1=0))):=fun k hl=>by
  refine⟨fun h=>DK _ t1 k h hl,fun hk=>xI _ t1 fun j s hj=>hl j s ?_ hj⟩;have:=(akn.1 hj).1;rw[qi] at this;omega
 generalize (strs az).toArray=cs at*
 have JV:=hd0 (show(Tryz.prog.info? 206).map (·.size)=some cs.size by rw[hsz];kernel_rfl);clear hsz hP hL hT hz1 jr;go_enter Tryz.func87,Tryz.ntmps87
 go_wp2_with (refine wpList_load_row rfl 206 (.global 3) rfl 3 rfl ty cs fz _ hbt Tryz.underlying206 rfl JV.out ?_)
 go_loop [26] (fun i=>∃k:Nat,k<=8/\i= .int .i64 k/\Hid (∀j s,j<k->az[j]? =some s->s≠t1)) (fun i=>8 - (intOf i).toNat)
 case atStart=>exact⟨0,by omega,rfl,fun j s hj=>by omega⟩
 case round=>
  obtain⟨k,hk,rfl,hl⟩:=hrel;by_cases hlt:k<8
  ·obtain⟨nm,hs⟩:∃nm,az[k]? =some nm:=⟨_,ako (by rw[qi];exact hlt)⟩
   have hrun:=hix.out k nm hs;by_cases he:nm=t1
   ·have HR2:Hid (fV s [t1]= .ok {s with f:= {s.f with ahP:=s.f.ahP++[⟨(k:Int)+1,false,[]⟩]}}):=by
     show _=_;have:=(hpost.out k hl.out).1 (by rw[hs,he]);rw[HR.out,this,if_neg (by omega)];rfl
    have e1:(nm==t1)=true:=by simp[he]
    have aB:=HP.out;have hown:=aB.live.own 2 (by decide);rw[hv] at hown;obtain⟨A5,c5,w9,acN,di,aN,bz⟩:=vF Ul 26 w Bd _ c0 A0 _ #[.int .i64 ((k:Int)+1),.bool false,.slice none 0 0] rfl hown (by simp[Value.oneCell']) (by omega) aB.size;rw[<-hv] at aN bz;have bI:Bk w9 p jq (dV s rv gm cm):=(aB.row (i:=2) (by decide) (r:=⟨.slice A5 ((rv 2).n+1) c5,_,_⟩) aN di bz).1;have x9:w9.cell? ⟨p,3,none⟩=some (rv 2).v:=bI.cell 3;have y9:=bI.frozen 3;have bG:=hd0 (aB.ajg (kd:=(k:Int)+1) (ig:=false) aN di bz ⟨by omega,by omega⟩ (K':=K+2) (by omega));have iy:=hd0 (aB.aiA (i:=2) (by decide) aN 3 (.slice A5 ((rv 2).n+1) c5) aB.size);clear hs he hl hown di aN bz bI aB;go_wp2;go_ret
    obtain⟨rv',g1,g2⟩:=bG.out;exact ahS.good HR2.out iy.out g2 g1
   have hnx:Hid (∀j s,j<k+1->az[j]? =some s->s≠t1):=fun j s' hj hs'=>by
    by_cases hjk:j=k
    ·subst hjk;rw[hs] at hs';cases hs';exact he
    exact hl.out j s' (by omega) hs'
   have e1:(nm==t1)=false:=by simpa using he
   clear hs he;go_wp2
   go_round
   case rel=>exact⟨k+1,by omega,by simp,hnx⟩
   case measure=>simp[intOf];omega
  have HR2:Hid (fV s [t1]= .error 22):=by show _=_;rw[HR.out,if_pos ((hpost.out k hl.out).2 (by omega))]
  go_wp2;go_ret
  exact ahS.bad HR2.out (akl _ _)
theorem Nk (w:World)(Bd p gm cm:Nat)(gl:Gl)(s:PS)(rv:Rows)(K:Nat)(A:Option Addr)(n c:Nat)(ws:List P3)(t t1:B)(hP:PSt w Bd p gm cm gl s rv K)(hL:aif w A n ws)(hT:af ws=t::[t1,eP])(hK:K<=10000000000)(jr:ain w):
  Calls Tryz.prog 87 #[.pointer (some ⟨p,0,none⟩),.slice A n c] w (ahS w Bd p gm cm gl (K+n) (fV s [t1,eP])):=by
 have hn:n=3:=by rw[<-hL.length];exact dE hT
 have hB:=hP.size;obtain⟨b,o,rfl,hb,q1,hz1⟩:=hL.word (k:=1) (t:=t1) (by rw[hT];rfl) (d:=3) rfl;obtain⟨b',o',e',-,q2,hz2⟩:=hL.word (k:=2) (t:=eP) (by rw[hT];rfl) (d:=6) rfl;obtain⟨rfl,rfl⟩:b=b'/\o=o':=by simpa using e'
 clear e' hz2;subst hn;have HP:=hd0 hP;have hpb:p<w.heap.size:=hP.par.lt;obtain⟨A0,c0,hv⟩:=hP.slice (i:=2) (by decide);have kp:w.cell? ⟨p,3,none⟩=some (rv 2).v:=hP.par.cell 3;rw[hv] at kp;have hfew:=hP.few 2 (by decide);have HR:=hd0 (Dj s t1 [eP] (by simp));obtain⟨ty,fz,hbt⟩:=jr.kinds;have hix:=hd0 C9;have hsz:=Fa;have hpost:Hid (∀k:Nat,(∀j s,j<k->az[j]? =some s->s≠t1)->((az[k]? =some t1->iR az t1=(k:Int)+1)/\(8<=k->iR az t1=0))):=fun k hl=>by
  refine⟨fun h=>DK _ t1 k h hl,fun hk=>xI _ t1 fun j s hj=>hl j s ?_ hj⟩;have:=(akn.1 hj).1;rw[qi] at this;omega
 generalize (strs az).toArray=cs at*
 have JV:=hd0 (show(Tryz.prog.info? 206).map (·.size)=some cs.size by rw[hsz];kernel_rfl);clear hsz hP hL hT hz1 jr;go_enter Tryz.func87,Tryz.ntmps87
 go_wp2_with (refine wpList_load_row rfl 206 (.global 3) rfl 3 rfl ty cs fz _ hbt Tryz.underlying206 rfl JV.out ?_)
 go_loop [26] (fun i=>∃k:Nat,k<=8/\i= .int .i64 k/\Hid (∀j s,j<k->az[j]? =some s->s≠t1)) (fun i=>8 - (intOf i).toNat)
 case atStart=>exact⟨0,by omega,rfl,fun j s hj=>by omega⟩
 case round=>
  obtain⟨k,hk,rfl,hl⟩:=hrel;by_cases hlt:k<8
  ·obtain⟨nm,hs⟩:∃nm,az[k]? =some nm:=⟨_,ako (by rw[qi];exact hlt)⟩
   have hrun:=hix.out k nm hs;by_cases he:nm=t1
   ·have HR2:Hid (fV s [t1,eP]= .ok {s with f:= {s.f with ahP:=s.f.ahP++[⟨(k:Int)+1,true,[]⟩]}}):=by
     show _=_;have:=(hpost.out k hl.out).1 (by rw[hs,he]);rw[HR.out,this,if_neg (by omega)];rfl
    have e1:(nm==t1)=true:=by simp[he]
    have aB:=HP.out;have hown:=aB.live.own 2 (by decide);rw[hv] at hown;obtain⟨A5,c5,w9,acN,di,aN,bz⟩:=vF Ul 26 w Bd _ c0 A0 _ #[.int .i64 ((k:Int)+1),.bool true,.slice none 0 0] rfl hown (by simp[Value.oneCell']) (by omega) aB.size;rw[<-hv] at aN bz;have bI:Bk w9 p jq (dV s rv gm cm):=(aB.row (i:=2) (by decide) (r:=⟨.slice A5 ((rv 2).n+1) c5,_,_⟩) aN di bz).1;have x9:w9.cell? ⟨p,3,none⟩=some (rv 2).v:=bI.cell 3;have y9:=bI.frozen 3;have bG:=hd0 (aB.ajg (kd:=(k:Int)+1) (ig:=true) aN di bz ⟨by omega,by omega⟩ (K':=K+3) (by omega));have iy:=hd0 (aB.aiA (i:=2) (by decide) aN 3 (.slice A5 ((rv 2).n+1) c5) aB.size);clear hs he hl hown di aN bz bI aB;go_wp2;go_ret
    obtain⟨rv',g1,g2⟩:=bG.out;exact ahS.good HR2.out iy.out g2 g1
   have hnx:Hid (∀j s,j<k+1->az[j]? =some s->s≠t1):=fun j s' hj hs'=>by
    by_cases hjk:j=k
    ·subst hjk;rw[hs] at hs';cases hs';exact he
    exact hl.out j s' (by omega) hs'
   have e1:(nm==t1)=false:=by simpa using he
   clear hs he;go_wp2
   go_round
   case rel=>exact⟨k+1,by omega,by simp,hnx⟩
   case measure=>simp[intOf];omega
  have HR2:Hid (fV s [t1,eP]= .error 22):=by show _=_;rw[HR.out,if_pos ((hpost.out k hl.out).2 (by omega))]
  go_wp2;go_ret
  exact ahS.bad HR2.out (akl _ _)
theorem Nr (w:World)(Bd p gm cm:Nat)(gl:Gl)(s:PS)(rv:Rows)(K:Nat)(A:Option Addr)(n c:Nat)(ws:List P3)(t:B)(l:List B)(hP:PSt w Bd p gm cm gl s rv K)(hL:aif w A n ws)(hT:af ws=t::l)(h2:l.length≠1)(h3:∀a,l≠[a,eP]):
  Calls Tryz.prog 87 #[.pointer (some ⟨p,0,none⟩),.slice A n c] w (ahS w Bd p gm cm gl (K+n) (fV s l)):=by
 have hn:n=l.length+1:=by rw[<-hL.length];exact dE hT
 have HR:=hd0 (Qh s l h2 h3);by_cases h4:l.length=2
 ·obtain⟨t1,t3,rfl⟩:∃t1 t3,l=[t1,t3]:=by
   match l,h4 with
   |[a,b],_=>exact⟨a,b,rfl⟩
  obtain⟨b,o,rfl,hb,q3,hz3⟩:=hL.word (k:=2) (t:=t3) (by rw[hT];rfl) (d:=6) rfl;have h5:t3≠eP:=fun e=>h3 t1 (by rw[e])
  have e3:(t3==[105,103,110,111,114,101])=false:=by rw[beq_eq_false_iff_ne];exact h5
  simp only[aF,ln] at hn;subst hn;clear hP hL hT h2 h3 h4 h5 hz3;go_enter Tryz.func87,Tryz.ntmps87
  go_wp2;go_ret
  exact ahS.bad HR.out (akl _ _)
 have e4:((n:Int)==3)=false:=by simp;omega
 have e3:((n:Int)==2)=false:=by simp;omega
 have e5:((n:Int) !=2)=true:=by simp;omega
 clear hP hL hT h2 h3 h4 hn;go_enter Tryz.func87,Tryz.ntmps87
 go_wp2;go_ret
 exact ahS.bad HR.out (akl _ _)
theorem I7 (w:World)(Bd p gm cm:Nat)(gl:Gl)(s:PS)(rv:Rows)(K:Nat)(A:Option Addr)(n c:Nat)(ws:List P3)(t:B)(l:List B)(hP:PSt w Bd p gm cm gl s rv K)(hL:aif w A n ws)(hT:af ws=t::l)(hK:K<=10000000000)(jr:ain w):
  Calls Tryz.prog 87 #[.pointer (some ⟨p,0,none⟩),.slice A n c] w (ahS w Bd p gm cm gl (K+n) (fV s l)):=by
 by_cases h2:l.length=1
 ·obtain⟨t1,rfl⟩:∃t1,l=[t1]:=by
   match l,h2 with
   |[a],_=>exact⟨a,rfl⟩
  exact NQ w Bd p gm cm gl s rv K A n c ws t t1 hP hL hT hK jr
 by_cases h3:∃a,l=[a,eP]
 ·obtain⟨t1,rfl⟩:=h3;exact Nk w Bd p gm cm gl s rv K A n c ws t t1 hP hL hT hK jr
 exact Nr w Bd p gm cm gl s rv K A n c ws t l hP hL hT h2 (fun a e=>h3 ⟨a,e⟩)
end Go.Proofs.YtkijckccfookeaaGreatDoor
