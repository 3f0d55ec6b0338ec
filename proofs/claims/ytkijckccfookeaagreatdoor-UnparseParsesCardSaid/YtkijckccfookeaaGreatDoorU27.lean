/- Lemmas. -/
import Derived.Test.YtkijckccfookeaaGreatDoorU25
set_option linter.unusedVariables false
set_option linter.unusedSimpArgs false
set_option maxRecDepth 100000
set_option maxHeartbeats 32000000
namespace Go.Proofs.YtkijckccfookeaaGreatDoor
open Go.RowKit
section
attribute [-go_sem] Builtin.append_
theorem zJ:anchorNames.length=4:=by decide
theorem U6 (k:Nat)(s:B)(h:anchorNames[k]? =some s)(w:World):(Instr.index 205 (.agg (strs anchorNames).toArray) (.int .i64 (k:Int))).run Tryz.prog w= .ok (.string ⟨s.toArray⟩) w:=by
 have hk:k<4:=by have:=(anv.1 h).1;rw[zJ] at this;exact this
 have hs:=strs_get h;have hk2:(k:Int)<4:=by omega
 have hk3:(0:Int)<=k:=by omega
 simp[Instr.index,go_sem,hk2,hk3,hs];omega
theorem Xn:(strs anchorNames).toArray.size=4:=by simp[xe,zJ]
theorem Z5:∀i j:Fin 4,anchorNames[i.val]? =anchorNames[j.val]? ->i=j:=by decide
def alN (t:B)(k:Nat)(kv:Int):Prop:=(kv=0/\∀j s,j<k->anchorNames[j]? =some s->s≠t)\/(∃j,j<k/\kv=(j:Int)+1/\anchorNames[j]? =some t)
theorem alN.hit {t s:B}{k:Nat}{kv:Int}(_h:alN t k kv)(hs:anchorNames[k]? =some s)(e:s=t):alN t (k+1) ((k:Int)+1):= .inr ⟨k,by omega,rfl,by rw[hs,e]⟩
theorem alN.miss {t s:B}{k:Nat}{kv:Int}(h:alN t k kv)(hs:anchorNames[k]? =some s)(e:s≠t):alN t (k+1) kv:=by
 rcases h with⟨h1,h2⟩|⟨j,h1,h2,h3⟩
 ·refine .inl ⟨h1,fun j s' hj hs'=> ?_⟩;by_cases hjk:j=k
  ·subst hjk;rw[hs] at hs';cases hs';exact e
  exact h2 j s' (by omega) hs'
 exact .inr ⟨j,by omega,h2,h3⟩
theorem alN.done {t:B}{k:Nat}{kv:Int}(h:alN t k kv)(hk:4<=k):jc anchorNames t=kv:=by
 have hl:∀j s,anchorNames[j]? =some s->j<4:=fun j s hj=>by have:=(anv.1 hj).1;rw[zJ] at this;exact this
 rcases h with⟨h1,h2⟩|⟨j,h1,h2,h3⟩
 ·rw[h1];exact zW _ t fun j s hj=>h2 j s (by have:=hl j s hj;omega) hj
 rw[h2];refine FY _ t j h3 fun i s hi hs e=> ?_
 subst e;have h4:=hl i s hs;have h5:=hl j s h3;have:=Z5 ⟨i,h4⟩ ⟨j,h5⟩ (hs.trans h3.symm);simp only[Fin.mk.injEq] at this;omega
theorem alN.i64 {t:B}{k:Nat}{kv:Int}(h:alN t k kv)(hk:k<=4):I64 kv:=by
 rcases h with⟨rfl,_⟩|⟨j,h1,h2,h3⟩
 ·exact⟨by omega,by omega⟩
 exact⟨by omega,by omega⟩
theorem Vs (s:PS)(l:List B)(h:l.length≠4):kL s l= .error 22:=by
 unfold kL;split
 ·rfl
 split
 ·simp at h
 rfl
abbrev AY:TypeId:=89
theorem Lp (w:World)(Bd p gm cm:Nat)(gl:Gl)(s:PS)(rv:Rows)(K:Nat)(A:Option Addr)(n c:Nat)(ws:List P3)(t:B)(l:List B)(hP:PSt w Bd p gm cm gl s rv K)(hL:alg w A n ws)(hT:ag ws=t::l)(hK:K<=10000000000)(jH:ali w){init:List akN}{g:akN}(hs:s.f.akJ=init++[g]){G n0 c9 q:Nat}(h0:(rv 0).v= .slice (some ⟨G,0,none⟩) n0 c9)(hq:q=init.length*9):
  Calls Tryz.prog 83 #[.pointer (some ⟨p,0,none⟩),.slice A n c,.pointer (some ⟨G,q,none⟩)] w (akO w Bd p gm cm gl (K+n) (kL s l)):=by
 have hn:n=l.length+1:=by rw[<-hL.length];exact dF hT
 have hB:=hP.size;by_cases h1:l.length=4
 ·obtain⟨t1,t2,t3,t4,rfl⟩:∃t1 t2 t3 t4,l=[t1,t2,t3,t4]:=by
   match l,h1 with
   |[a1,a2,a3,a4],_=>exact⟨a1,a2,a3,a4,rfl⟩
  obtain⟨b,o,rfl,hb,q1,hz1⟩:=hL.word (k:=1) (t:=t1) (by rw[hT];rfl) (d:=3) rfl;obtain⟨b',o',e',-,q2,hz2⟩:=hL.word (k:=2) (t:=t2) (by rw[hT];rfl) (d:=6) rfl;obtain⟨rfl,rfl⟩:b=b'/\o=o':=by simpa using e'
  clear e';obtain⟨b',o',e',-,q3,hz3⟩:=hL.word (k:=3) (t:=t3) (by rw[hT];rfl) (d:=9) rfl;obtain⟨rfl,rfl⟩:b=b'/\o=o':=by simpa using e'
  clear e';obtain⟨b',o',e',-,q4,QO⟩:=hL.word (k:=4) (t:=t4) (by rw[hT];rfl) (d:=12) rfl;obtain⟨rfl,rfl⟩:b=b'/\o=o':=by simpa using e'
  clear e';simp only[aT,ln] at hn;subst hn;have HP:=hd0 hP;obtain⟨G',c9',ci,gv,-,-,hGb,ku,AX,uP⟩:=hP.alC hs;obtain⟨rfl,hn0,rfl⟩:G'=G/\init.length+1=n0/\c9'=c9:=by rw[gv] at h0;simpa using h0
  have hpb:G'<w.heap.size:=hGb;obtain⟨A0,c0,hv⟩:=hP.slice (i:=11) (by decide);have kp:w.cell? ⟨G',q+6,none⟩=some (rv 11).v:=by rw[hq];exact ku 6 (by decide)
  rw[hv] at kp;have hfew:=hP.few 11 (by decide);have HR:Hid (kL s [t1,t2,t3,t4]=if jc anchorNames t1=0 then .error 22 else fin (fD 0 [t2,t3,t4]) {s with f:= {s.f with akJ:=init++[{g with anchors:=g.anchors++[⟨jc anchorNames t1,aI t2,aI t3,aI t4⟩]}]}}):=by show _=_;unfold kL;rw[if_neg (xy hs)];simp only;rw[uT s _ hs]
  have Hs:=hd0 hs;have Hq:=hd0 hq;have H0:=hd0 h0;have vk:=hd0 uP;have rM:=hd0 (fun w rb er h=>dP w rb p er t2 h hz2);have HI2:=hd0 (dH t2);have AL:=hd0 (fun w rb er h=>dP w rb p er t3 h hz3);have HI3:=hd0 (dH t3);have Po:=hd0 (fun w rb er h=>dP w rb p er t4 h QO);have HI4:=hd0 (dH t4);generalize aI t2=v2 at*
  generalize aI t3=v3 at*
  generalize aI t4=v4 at*
  obtain⟨ty,fz,hbt⟩:=jH.anch;have adm:2<w.heap.size:=jH.anch.lt;have hix:=hd0 U6;have hsz:=Xn;generalize (strs anchorNames).toArray=cs at*
  have MN:=hd0 (show(Tryz.prog.info? 205).map (·.size)=some cs.size by rw[hsz];kernel_rfl);have Hbt:Hid ((w.alloc (.cells #[.int .i64 0,.int .i64 0,.int .i64 0,.int .i64 0] AY)).heap[2]? =some (.cells cs ty fz)):=(Below.heap_alloc w _ _ adm).trans hbt;have HD1:Hid (Bk (w.alloc (.cells #[.int .i64 0,.int .i64 0,.int .i64 0,.int .i64 0] AY)) w.heap.size AY #[.int .i64 0,.int .i64 0,.int .i64 0,.int .i64 0]):=Bk.new _ _ _;have HB1:Hid (Below w.heap.size w (w.alloc (.cells #[.int .i64 0,.int .i64 0,.int .i64 0,.int .i64 0] AY))):=hd0 ((ant _ _).alloc (af _) _);clear hsz hP hL hT hz1 hz2 hz3 QO jH hs hq h0 gv ku AX uP hn0 h1 hbt adm;have HQ1:=hd0 q1;have HQ2:=hd0 q2;have HQ3:=hd0 q3;have HQ4:=hd0 q4;clear q1 q2 q3 q4;go_enter Tryz.func83,Tryz.ntmps83
  go_wp2_with (refine wpList_load_row rfl 205 (.global 2) rfl 2 rfl ty cs fz _ Hbt.out Tryz.underlying205 rfl MN.out ?_)
  go_loopw [15] (fun i wr=>∃(k:Nat) (kv:Int),k<=4/\i= .int .i64 k/\Hid (alN t1 k kv)/\Bk wr w.heap.size AY #[.int .i64 kv,.int .i64 0,.int .i64 0,.int .i64 0]/\Below w.heap.size w wr) (fun i _=>4 - (intOf i).toNat)
  case atStart=>exact⟨0,0,by omega,rfl,.inl ⟨rfl,fun j s hj=>by omega⟩,HD1.out,HB1.out⟩
  case round=>
   obtain⟨k,kv,hk,rfl,hl,hD,hbw⟩:=hrel;have d0:wr.cell? ⟨w.heap.size,0,none⟩=some (.int .i64 kv):=hD.cell 0;have d1:=hD.frozen 0;have q1:wr.cell? ⟨b,o+3+2,none⟩=some (.string ⟨t1.toArray⟩):=((aj hbw).1 _ _ hb).trans HQ1.out;have hzw:=hD.lt;by_cases hlt:k<4
   ·obtain⟨nm,hsn⟩:∃nm,anchorNames[k]? =some nm:=⟨_,anw (by rw[zJ];exact hlt)⟩
    have hrun:=hix.out k nm hsn;by_cases he:nm=t1
    ·have e1:(nm==t1)=true:=by simp[he]
     have hnx:=hd0 (hl.out.hit hsn he);have HD2:=hd0 (hD.set 0 (.int .i64 ((k:Int)+1)));have HB2:=hd0 (hbw.setCell (p:=⟨w.heap.size,0,none⟩) (af _) (.int .i64 ((k:Int)+1)));clear hsn he hD hbw hl;go_wp2;go_roundw
     case rel=>exact⟨k+1,(k:Int)+1,by omega,by simp,hnx,HD2.out,HB2.out⟩
     case measure=>simp[intOf];omega
    have e1:(nm==t1)=false:=by simpa using he
    have hnx:=hd0 (hl.out.miss hsn he);have HD2:=hd0 hD;have HB2:=hd0 hbw;clear hsn he hD hbw hl;go_wp2;go_roundw
    case rel=>exact⟨k+1,kv,by omega,by simp,hnx,HD2.out,HB2.out⟩
    case measure=>simp[intOf];omega
   obtain rfl:k=4:=by omega
   have hkn:=hl.out.done (af _);have HIk:=hd0 (hl.out.i64 (af _));by_cases hkv:kv=0
   ·have HR2:Hid (kL s [t1,t2,t3,t4]= .error 22):=by
     show _=_;rw[HR.out,if_pos (by rw[hkn,hkv])]
    subst hkv;have HB2:=hd0 hbw;clear hD hbw hl hkn HIk;go_wp2;go_ret
    exact akO.bad HR2.out (HB2.out.mono hB)
   have HR2:Hid (kL s [t1,t2,t3,t4]=fin (fD 0 [t2,t3,t4]) {s with f:= {s.f with akJ:=init++[{g with anchors:=g.anchors++[⟨kv,v2,v3,v4⟩]}]}}):=by show _=_;rw[HR.out,if_neg (by rw[hkn];exact hkv),hkn]
   have e1:(kv==0)=false:=by simpa using hkv
   have HD2:=hd0 hD;have HB2:=hd0 hbw;clear hD hbw hl hkn hkv;go_wp2_with fail
   refine(gy wr p).mono ?_;rintro e w1 ⟨rfl,hr1,hb1⟩;have hl1:=hr1.lt;have Hb1:Hid (Below w.heap.size w w1):=HB2.out.trans (hb1.mono HB2.out.size);have sO:Hid (Bk w1 w.heap.size AY #[.int .i64 kv,.int .i64 0,.int .i64 0,.int .i64 0]):=HD2.out.keep (hb1.block w.heap.size hzw);have kP:=hd0 hr1;clear hr1 hb1;have hbl:b≠w.heap.size:=by omega
   have hpc:G'≠w.heap.size:=by omega
   have hrw:wr.heap.size≠w.heap.size:=by omega
   have hz0:w.heap.size<=wr.heap.size:=by omega
   have p1:w1.cell? ⟨b,o+6+2,none⟩=some (.string ⟨t2.toArray⟩):=((aj Hb1.out).1 _ _ hb).trans HQ2.out;go_wp2_with fail
   refine(rM.out _ _ _ (by exact kP.out)).mono ?_;rintro e w2 ⟨rfl,hr2,hg2⟩;have hb2:=aZ Hb1.out hg2 hz0;have hk2:Bk w2 w.heap.size AY #[.int .i64 kv,.int .i64 0,.int .i64 0,.int .i64 0]:=Bk.kept2 hg2 sO.out (by omega);have BN:w2.cell? ⟨w.heap.size,1,none⟩=some (.int .i64 0):=hk2.cell 1;have y2:=hk2.frozen 1;have hs2:=hk2.lt;have p2:w2.cell? ⟨b,o+9+2,none⟩=some (.string ⟨t3.toArray⟩):=((aj hb2).1 _ _ hb).trans HQ3.out;have lM:Hid (Rdr (w2.setCell ⟨w.heap.size,1,none⟩ (.int .i64 v2)) wr.heap.size p (aK 0 t2)):=Bk.far hr2 (by simp;omega) _;have Hb2:=hd0 (hb2.setCell (p:=⟨w.heap.size,1,none⟩) (af _) (.int .i64 v2));have lC:Hid (Bk (w2.setCell ⟨w.heap.size,1,none⟩ (.int .i64 v2)) w.heap.size AY #[.int .i64 kv,.int .i64 v2,.int .i64 0,.int .i64 0]):=hk2.set 1 _;clear hr2 hg2 hb2 hk2;go_wp2_with fail
   refine(AL.out _ _ _ (by exact lM.out)).mono ?_;rintro e w3 ⟨rfl,hr3,hg3⟩;have hb3:=aZ Hb2.out hg3 hz0;have hk3:Bk w3 w.heap.size AY #[.int .i64 kv,.int .i64 v2,.int .i64 0,.int .i64 0]:=Bk.kept2 hg3 lC.out (by omega);have Y7:w3.cell? ⟨w.heap.size,2,none⟩=some (.int .i64 0):=hk3.cell 2;have y3:=hk3.frozen 2;have hs3:=hk3.lt;have p3:w3.cell? ⟨b,o+12+2,none⟩=some (.string ⟨t4.toArray⟩):=((aj hb3).1 _ _ hb).trans HQ4.out;have lZ:Hid (Rdr (w3.setCell ⟨w.heap.size,2,none⟩ (.int .i64 v3)) wr.heap.size p (aK (aK 0 t2) t3)):=Bk.far hr3 (by simp;omega) _;have Hb3:=hd0 (hb3.setCell (p:=⟨w.heap.size,2,none⟩) (af _) (.int .i64 v3));have jX:Hid (Bk (w3.setCell ⟨w.heap.size,2,none⟩ (.int .i64 v3)) w.heap.size AY #[.int .i64 kv,.int .i64 v2,.int .i64 v3,.int .i64 0]):=hk3.set 2 _;clear hr3 hg3 hb3 hk3;go_wp2_with fail
   refine(Po.out _ _ _ (by exact lZ.out)).mono ?_;rintro e w4 ⟨rfl,hr4,hg4⟩;have hb4:=aZ Hb3.out hg4 hz0;have hk4:Bk w4 w.heap.size AY #[.int .i64 kv,.int .i64 v2,.int .i64 v3,.int .i64 0]:=Bk.kept2 hg4 jX.out (by omega);have ae5:w4.cell? ⟨w.heap.size,3,none⟩=some (.int .i64 0):=hk4.cell 3;have y4:=hk4.frozen 3;have hs4:=hk4.lt;have YE:Hid (Rdr (w4.setCell ⟨w.heap.size,3,none⟩ (.int .i64 v4)) wr.heap.size p (aK (aK (aK 0 t2) t3) t4)):=Bk.far hr4 (by simp;omega) _;have Hb4:=hd0 (hb4.setCell (p:=⟨w.heap.size,3,none⟩) (af _) (.int .i64 v4));have VW:Hid (Bk (w4.setCell ⟨w.heap.size,3,none⟩ (.int .i64 v4)) w.heap.size AY #[.int .i64 kv,.int .i64 v2,.int .i64 v3,.int .i64 v4]):=hk4.set 3 _;clear hr4 hg4 hb4 hk4;go_wp2_with fail
   obtain⟨W1,hW1⟩:∃W1,w4.setCell ⟨w.heap.size,3,none⟩ (.int .i64 v4)=W1:=⟨_,rfl⟩
   rw[hW1];have Hr:=YE;have Hb:=Hb4;have eY:=VW;rw[hW1] at Hr Hb eY;have vG:W1.cell? ⟨w.heap.size,0,none⟩=some (.int .i64 kv):=eY.out.cell 0;have xB:W1.cell? ⟨w.heap.size,1,none⟩=some (.int .i64 v2):=eY.out.cell 1;have Az:W1.cell? ⟨w.heap.size,2,none⟩=some (.int .i64 v3):=eY.out.cell 2;have Df:W1.cell? ⟨w.heap.size,3,none⟩=some (.int .i64 v4):=eY.out.cell 3;have aJ:=HP.out.below Hb.out;have xK:W1.cell? ⟨G',q+6,none⟩=some (.slice A0 (rv 11).n c0):=((aj Hb.out).1 _ _ hpb).trans kp;have zp:G'<W1.heap.size:=anD hpb Hb.out.size;have zc:w.heap.size<W1.heap.size:=eY.out.lt;have zr:wr.heap.size<W1.heap.size:=Hr.out.lt;have hown:=aJ.live.own 11 (by decide);rw[hv] at hown;obtain⟨A5,c5,w9,hrun,aS,ax,bi⟩:=iy YF 55 W1 Bd _ c0 A0 _ #[.int .i64 kv,.int .i64 v2,.int .i64 v3,.int .i64 v4] rfl hown (by simp[Value.oneCell']) (by omega) (by omega);rw[<-hv] at ax bi;have bP:∃cur,Bk w9 G' 59 cur/\cur[q+6]? =some (rv 11).v:=by obtain⟨cur,dB⟩:=vk.out;have h1:Bk w9 G' 59 cur:=Bk.grown (dB.keep (Hb.out.block G' hpb)) ax (aJ.live.own 11 (by decide)) (by decide);exact⟨cur,h1,by rw[<-dB.cell,kp,hv]⟩
   obtain⟨JG,bP,tK⟩:=bP;have jJ:=Bk.grown Hr.out ax (aJ.live.own 11 (by decide)) (by decide);have x9:w9.cell? ⟨G',q+6,none⟩=some (rv 11).v:=(bP.cell _).trans tK;have y9:=bP.frozen (q+6);have z9:w9.cell? ⟨wr.heap.size,1,none⟩=some (.int .i64 (aK (aK (aK 0 t2) t3) t4)):=jJ.cell 1;have af7:Hid (fD 0 [t2,t3,t4]=(aK (aK (aK 0 t2) t3) t4)):=rfl;rw[af7.out] at HR2;generalize her:(aK (aK (aK 0 t2) t3) t4)=er at*
   have bK:=hd0 (PSt.amF (m:=1) (K':=K+(0+1+1+1+1+1)) aJ Hs.out H0.out ax aS bi (ys:=[⟨kv,v2,v3,v4⟩]) rfl (Fl.one (R:=akX) (⟨rfl,HIk.out,HI2.out,HI3.out,HI4.out⟩) rfl) (by omega));rw[<-Hq.out] at bK;have iD:=hd0 (Hb.out.mono hB);have HQ:=hd0 (KQ.below (cm:=cm) Hb.out);clear hW1 hown aS ax bi bP jJ aJ tK;go_region
   all_goals
    go_wp2;go_ret
    obtain⟨rv',g1,g2,g3,-⟩:=bK.out;exact akO.fin HR2.out (iD.out.trans g3) (HQ.out.trans g2) g1
 have HR:=hd0 (Vs s l h1);have e1:((n:Int)==5)=false:=by simp;omega
 have e2:((n:Int) !=5)=true:=by simp;omega
 clear hP hL hT h1 hn hs h0 hq;go_enter Tryz.func83,Tryz.ntmps83
 go_wp2;go_ret
 exact akO.bad HR.out (ant _ _)
end
section
theorem akO.amv {w w':World}{Bd p gm cm:Nat}{gl:Gl}{K:Nat}{r:Ans}{e:Ending}(h:akO w.drew Bd p gm cm gl K r e w'):akO w Bd p gm cm gl K r e w':=by
 obtain⟨h1,h2⟩:=h;refine⟨⟨h1.os,h1.tape,h1.output,h1.size,h1.block⟩,?_⟩;cases r with
 |ok s=>exact⟨h2.1,⟨h2.2.1.same,h2.2.1.size⟩,h2.2.2⟩
 |error e=>exact h2
theorem akO.ret {w w':World}{Bd p gm cm:Nat}{gl:Gl}{K:Nat}{r:Ans}{e:Ending}(h:akO w Bd p gm cm gl K r e w'):∃v:Int,e= .returned (.int .i64 v):=by
 obtain⟨h1,h2⟩:=h;cases r with
 |ok s=>exact⟨0,h2.1⟩
 |error e=>exact⟨e,h2⟩
theorem pK (F:Nat)(hE:∀(args:Array Value) (w:World),(callFunc F args).run Tryz.prog w= .ok (.enter F args) w)(w:World)(Bd p gm cm:Nat)(gl:Gl)(s:PS)(rv:Rows)(K K2:Nat)(A:Option Addr)(n c c1 c2:Nat)(r:Ans)
  (hP:PSt w Bd p gm cm gl s rv K) (k1:w.cell? ⟨c1,0,none⟩=some (.pointer (some ⟨p,0,none⟩))) (k2:w.cell? ⟨c2,0,none⟩=some (.func (.func F) #[.pointer (some ⟨p,0,none⟩)] #[])) (h0:s.f.akJ=[]->r= .error 22)
  (h1:∀init g,s.f.akJ=init++[g]->∀G n0 c9,(rv 0).v= .slice (some ⟨G,0,none⟩) n0 c9->Calls Tryz.prog F #[.pointer (some ⟨p,0,none⟩),.slice A n c,.pointer (some ⟨G,init.length*9,none⟩)] w.drew (akO w.drew Bd p gm cm gl K2 r)) (hK:K<=10000000000):
  Calls Tryz.prog 129 #[.slice A n c,.pointer (some ⟨c1,0,none⟩),.pointer (some ⟨c2,0,none⟩)] w (akO w Bd p gm cm gl K2 r):=by
 have hfew:=hP.few 0 (by decide);have kp:w.cell? ⟨p,1,none⟩=some (rv 0).v:=hP.par.cell 1;have hlen:=hP.fnt.gly.1;rcases List.eq_nil_or_concat s.f.akJ with hg|⟨init,g,hg⟩
 ·obtain⟨A0,c0,hv⟩:=hP.slice (i:=0) (by decide);rw[hg] at hlen;rw[hv,hlen] at kp;have HR:=hd0 (h0 hg);have HB:=hd0 hP.size;clear hP h0 h1 hg hlen hfew;go_enter Tryz.func129,Tryz.ntmps129
  go_wp2_with fail
  go_ret
  exact akO.bad HR.out (ant _ _)
 rw[List.concat_eq_append] at hg;obtain⟨G,c0,ci,e1,-,-,hGb,-⟩:=hP.alC hg;have hc:=hd0 (h1 init g hg _ _ _ e1);rw[e1] at kp;rw[hg] at hlen;have hi:init.length+1<=10000000000:=by rw[la] at hlen;simp only[aT,ln] at hlen;omega
 clear hP h0 h1 hg hlen hfew;go_enter Tryz.func129,Tryz.ntmps129
 go_wp2_with fail
 go_region_with (refine hc.out.mono ?_;rintro e w2 hpost;obtain⟨ev,rfl⟩:=hpost.ret;have HP2:=hd0 hpost;clear hpost)
 all_goals
  go_wp2;go_ret
  exact HP2.out.amv
theorem OO (F:Nat)(hE:∀(args:Array Value) (w:World),(callFunc F args).run Tryz.prog w= .ok (.enter F args) w)(w:World)(Bd p gm cm:Nat)(gl:Gl)(s:PS)(rv:Rows)(K K2:Nat)(A:Option Addr)(n c c1 c2:Nat)(r:Ans)
  (hP:PSt w Bd p gm cm gl s rv K) (k1:w.cell? ⟨c1,0,none⟩=some (.pointer (some ⟨p,0,none⟩))) (k2:w.cell? ⟨c2,0,none⟩=some (.func (.func F) #[.pointer (some ⟨p,0,none⟩)] #[])) (h0:s.f.akK=[]->r= .error 22)
  (h1:∀init g,s.f.akK=init++[g]->∀G n0 c9,(rv 2).v= .slice (some ⟨G,0,none⟩) n0 c9->Calls Tryz.prog F #[.pointer (some ⟨p,0,none⟩),.slice A n c,.pointer (some ⟨G,init.length*3,none⟩)] w.drew (akO w.drew Bd p gm cm gl K2 r)) (hK:K<=10000000000):
  Calls Tryz.prog 133 #[.slice A n c,.pointer (some ⟨c1,0,none⟩),.pointer (some ⟨c2,0,none⟩)] w (akO w Bd p gm cm gl K2 r):=by
 have hfew:=hP.few 2 (by decide);have kp:w.cell? ⟨p,3,none⟩=some (rv 2).v:=hP.par.cell 3;have hlen:=hP.fnt.lks.1;rcases List.eq_nil_or_concat s.f.akK with hg|⟨init,g,hg⟩
 ·obtain⟨A0,c0,hv⟩:=hP.slice (i:=2) (by decide);rw[hg] at hlen;rw[hv,hlen] at kp;have HR:=hd0 (h0 hg);have HB:=hd0 hP.size;clear hP h0 h1 hg hlen hfew;go_enter Tryz.func133,Tryz.ntmps133
  go_wp2_with fail
  go_ret
  exact akO.bad HR.out (ant _ _)
 rw[List.concat_eq_append] at hg;obtain⟨G,c0,ci,e1,-,-,hGb,-⟩:=hP.al8 hg;have hc:=hd0 (h1 init g hg _ _ _ e1);rw[e1] at kp;rw[hg] at hlen;have hi:init.length+1<=10000000000:=by rw[la] at hlen;simp only[aT,ln] at hlen;omega
 clear hP h0 h1 hg hlen hfew;go_enter Tryz.func133,Tryz.ntmps133
 go_wp2_with fail
 go_region_with (refine hc.out.mono ?_;rintro e w2 hpost;obtain⟨ev,rfl⟩:=hpost.ret;have HP2:=hd0 hpost;clear hpost)
 all_goals
  go_wp2;go_ret
  exact HP2.out.amv
attribute [-go_sem] Builtin.append_
theorem goT (op:Bool)(row:List P3)(told:List (List P3))(ws:List P3):eQ op (ag row) (told.map ag) (ag ws)=(dm op row told ws).map (List.map ag):=by
 induction ws generalizing op row told with
 |nil=>show eQ op (ag row) (told.map ag) []=_;rw[eQ,dm];cases op<;>rfl
 |cons w r ih=>
  show eQ op (ag row) (told.map ag) (w.2.2::ag r)=_;rw[eQ,dm];by_cases h1:w.2.2=[91]
  ·rw[if_pos h1,if_pos h1];cases op
   ·exact ih true [] told
   rfl
  rw[if_neg h1,if_neg h1];by_cases h2:w.2.2=[93]
  ·rw[if_pos h2,if_pos h2];cases op
   ·rfl
   have:=ih false [] (told++[row]);rw[an7] at this;exact this
  rw[if_neg h2,if_neg h2];cases op
  ·have:=ih false [] (told++[[w]]);rw[an7] at this;exact this
  have:=ih true (row++[w]) told;rw[show ag (row++[w])=ag row++[w.2.2] by simp[ag]] at this;exact this
theorem mf (ws:List P3):eP (ag ws)=(jb ws).map (List.map ag):=goT false [] [] ws
theorem XJ (op:Bool)(row:List P3)(told:List (List P3))(ws:List P3)(rows:List (List P3))(h:dm op row told ws=some rows):rows.length<=told.length+ws.length/\∀r∈rows,r∈told\/r.length<=row.length+ws.length:=by
 induction ws generalizing op row told with
 |nil=>
  rw[dm] at h;cases op
  ·cases h;exact⟨by simp,fun r hr=> .inl hr⟩
  cases h
 |cons w r ih=>
  rw[dm] at h;by_cases h1:w.2.2=[91]
  ·rw[if_pos h1] at h;cases op
   ·obtain⟨g1,g2⟩:=ih true [] told h;refine⟨by simp only[aT];omega,fun x hx=>(g2 x hx).imp id fun g=> ?_⟩;simp only[aT,ln] at g ⊢;omega
   cases h
  rw[if_neg h1] at h;by_cases h2:w.2.2=[93]
  ·rw[if_pos h2] at h;cases op
   ·cases h
   obtain⟨g1,g2⟩:=ih false [] (told++[row]) h;refine⟨by simp only[aT,la,ln] at g1 ⊢;omega,fun x hx=> ?_⟩;rcases g2 x hx with g|g
   ·rcases anz.1 g with g|g
    ·exact .inl g
    simp only[anu] at g;subst g;exact .inr (by omega)
   exact .inr (by simp only[aT,ln] at g ⊢;omega)
  rw[if_neg h2] at h;cases op
  ·obtain⟨g1,g2⟩:=ih false [] (told++[[w]]) h;refine⟨by simp only[aT,la,ln] at g1 ⊢;omega,fun x hx=> ?_⟩;rcases g2 x hx with g|g
   ·rcases anz.1 g with g|g
    ·exact .inl g
    simp only[anu] at g;subst g;exact .inr (by simp only[aT,ln];omega)
   exact .inr (by simp only[aT,ln] at g ⊢;omega)
  obtain⟨g1,g2⟩:=ih true (row++[w]) told h;refine⟨by simp only[aT];omega,fun x hx=>(g2 x hx).imp id fun g=> ?_⟩;simp only[aT,la,ln] at g ⊢;omega
theorem vN {ws:List P3}{rows:List (List P3)}(h:jb ws=some rows):rows.length<=ws.length/\∀r∈rows,r.length<=ws.length:=by obtain⟨h1,h2⟩:=XJ _ _ _ _ _ h;exact⟨by simpa using h1,fun r hr=>(h2 r hr).elim (fun g=>by simp at g) (fun g=>by simpa using g)⟩
theorem G5 (gl:Gl)(cls:List (B×List Int))(er:Int)(he:er≠0)(acc:List Int)(l:List B):(aY gl cls er acc l).1=er:=by
 cases l with
 |nil=>rfl
 |cons t r=>
  have h:(ik gl cls er acc t).1=er:=by
   unfold ik;split
   ·split
    ·rfl
    show eC er 23=er;unfold eC;rw[if_neg he]
   show jM gl er t=er;unfold jM;rw[if_neg (by intro h;exact he h.1)]
  rw[aY,if_pos (by rw[h];exact he)];exact h
theorem ac1 (gl:Gl)(cls:List (B×List Int))(acc:List Int)(t:B):(∃e,mP gl cls t= .error e/\e≠0/\(ik gl cls 0 acc t).1=e)\/(∃c,mP gl cls t= .ok c/\ik gl cls 0 acc t=(0,acc++c)):=by
 unfold ik;rcases MX t with⟨r,h1,h2,h3⟩|⟨h1,h2,h3⟩
 ·rw[h3,h2];subst h1;show(∃e,mP gl cls (64::r)=_/\_)\/_;have hs:mP gl cls (64::r)=match cls.lookup r with|some c=> .ok c|none=> .error 23:=rfl
  rw[hs];cases cls.lookup r with
  |none=>exact .inl ⟨23,rfl,by decide,rfl⟩
  |some c=>exact .inr ⟨c,rfl,rfl⟩
 rw[h2,h1];have hs:mP gl cls t=match gl.lookup t with|some n=> .ok [(n:Int)]|none=> .error 23:=by
  unfold mP;split
  ·rename_i r;exact absurd rfl (h3 r)
  rfl
 rw[hs];simp only[Bool.false_eq_true,if_false];unfold jM fP;cases gl.lookup t with
 |none=>exact .inl ⟨23,rfl,by decide,rfl⟩
 |some n=>exact .inr ⟨[(n:Int)],rfl,rfl⟩
theorem Dc (gl:Gl)(cls:List (B×List Int))(acc:List Int)(l:List B)(ha:acc.length<=1000):(∃e,nR gl cls acc l= .error e/\e≠0/\(aY gl cls 0 acc l).1=e)\/(∃g,nR gl cls acc l= .ok g/\aY gl cls 0 acc l=(0,g)/\g.length<=1000):=by
 induction l generalizing acc with
 |nil=>exact .inr ⟨acc,rfl,rfl,ha⟩
 |cons t r ih=>
  rcases ac1 gl cls acc t with⟨e,h1,h2,h3⟩|⟨c,h1,h2⟩
  ·refine .inl ⟨e,by rw[nR,h1],h2,?_⟩;rw[aY,if_pos (by rw[h3];exact h2)];exact h3
  rw[nR,h1];by_cases h4:1000<(acc++c).length
  ·refine .inl ⟨2,by simp only[if_pos h4],by decide,?_⟩;rw[EW h2 h4]
  simp only[if_neg h4];rw[NJ h2 (by omega)];exact ih (acc++c) (by omega)
section
variable {w w':World} {Bd p gm cm:Nat} {gl:Gl} {s:PS} {rv:Rows} {K:Nat}
theorem PSt.amJ (h:PSt w Bd p gm cm gl s rv K){t:B}{l:List Int}{A:Option Addr}{c:Nat}(hsl:Sl akL 1 w (Fz w rv) A l)(hl:l.length<=2000)(hn:s.cls.lookup t=none){f:B->Option Value}
  (hf:∀t,(s.cls.lookup t=none/\f t=none)\/∃l A c,s.cls.lookup t=some l/\f t=some (.slice A l.length c)/\Sl akL 1 w (Fz w rv) A l/\l.length<=2000)
  (hm:akW mi w' cm (fun t'=>if t'=t then some (.slice A l.length c) else f t')) (hg:w.grownBy w' (some cm)):
  PSt w' Bd p gm cm gl {s with cls:=s.cls++[(t,l)]} rv K/\KQ cm w w'/\Below Bd w w':=by
 obtain⟨f0,f1,f2⟩:=h.cls;have hr':∀g,some cm=some g->∀t cs,Bk w g t cs->lK t=false:=fun g e t' cs' hb=>by
  injection e with e
  subst e;exact(f1.alS hb).elim
 have ht:Tr w rv w' rv:=Tr.other hg hr';refine⟨{par:=h.par.keep (hg.block p h.par.lt fun e=> ?_),live:=h.live.other hg hr',fnt:=h.fnt.tr ht,gmp:=h.gmp.grown hg fun e=> ?_,glI:=h.glI,cls:=⟨_,hm,fun x=> ?_⟩,few:=h.few,low:=h.low},KQ.row hg fun g e=> ?_,(ant Bd w).grown hg h.size (fun g e=> ?_)⟩
 ·injection e with e
  subst e;exact f1.alS h.par
 ·injection e with e
  exact h.low.2.2.2 e
 ·show((s.cls++[(t,l)]).lookup x=none/\_)\/_;rw[List.lookup_append];by_cases hx:x=t
  ·subst hx;refine .inr ⟨l,A,c,?_,if_pos rfl,ht.sl akL.ok hsl,hl⟩;rw[hn];simp
  rw[if_neg hx];have hxt:(x==t)=false:=by simpa using hx
  have h0:([(t,l)]:List (B×List Int)).lookup x=none:=by simp[List.lookup,hxt]
  rw[h0,Option.or_none];rcases hf x with g|⟨l',A',c',e1,e2,e3,e4⟩
  ·exact .inl g
  exact .inr ⟨l',A',c',e1,e2,ht.sl akL.ok e3,e4⟩
 ·injection e with e
  subst e;obtain⟨es,ck,hh⟩:=f1.isMap;exact⟨_,hh,fun hk=>hk rfl⟩
 injection e with e
 subst e;exact h.low.2.2.1
end
theorem EL (gl:Gl)(s:PS)(t1:B)(r:List B)(h:∀row,eP r≠some [row]):kR gl s (t1::r)= .error 22:=by
 show(match eP r with|some [row]=>_|_=>_)=_;split
 ·rename_i row he;exact absurd he (h row)
 rfl
theorem EF (gl:Gl)(s:PS)(t1:B)(r row:List B)(h:eP r=some [row]):kR gl s (t1::r)=if bD 0 t1≠0 then .error (bD 0 t1) else match nR gl s.cls [] row with
   | .error e=> .error e
   | .ok g=>if(s.cls.lookup t1).isSome then .error 24 else .ok {s with cls:=s.cls++[(t1,g)]} :=by
 show(match eP r with|some [row]=>_|_=>_)=_;rw[h];rfl
theorem VF (gl:Gl)(s:PS)(t1:B)(r row:List B)(h:eP r=some [row])(he:(aY gl s.cls (bD 0 t1) [] row).1≠0):kR gl s (t1::r)= .error (aY gl s.cls (bD 0 t1) [] row).1:=by
 rw[EF gl s t1 r row h];by_cases h0:bD 0 t1=0
 ·rw[h0] at he ⊢;rw[if_neg (by simp)];rcases Dc gl s.cls [] row (by simp) with⟨e,h1,h2,h3⟩|⟨g,h1,h2,h3⟩
  ·rw[h1,h3]
  rw[h2] at he;exact absurd rfl he
 rw[if_pos h0,G5 _ _ _ h0]
theorem WB (gl:Gl)(s:PS)(t1:B)(r row:List B)(h:eP r=some [row])(he:(aY gl s.cls (bD 0 t1) [] row).1=0):kR gl s (t1::r)=(if(s.cls.lookup t1).isSome then .error 24 else .ok {s with cls:=s.cls++[(t1,(aY gl s.cls (bD 0 t1) [] row).2)]})/\(aY gl s.cls (bD 0 t1) [] row).2.length<=1000:=by
 rw[EF gl s t1 r row h];by_cases h0:bD 0 t1=0
 ·rw[h0] at he ⊢;rw[if_neg (by simp)];rcases Dc gl s.cls [] row (by simp) with⟨e,h1,h2,h3⟩|⟨g,h1,h2,h3⟩
  ·exact absurd (h3.symm.trans he) h2
  rw[h1,h2];exact⟨rfl,h3⟩
 rw[G5 _ _ _ h0] at he;exact absurd he h0
theorem RG (gl:Gl)(cls:List (B×List Int))(hg:∀t n,gl.lookup t=some n->n<=1000000000)(hc:∀t l,cls.lookup t=some l->∀x∈l,I64 x)(er:Int)(acc:List Int)(ha:∀x∈acc,I64 x)(l:List B):∀x∈(aY gl cls er acc l).2,I64 x:=by
 have hw:∀er acc t,(∀x∈acc,I64 x)->∀x∈(ik gl cls er acc t).2,I64 x:=by
  intro er acc t ha;unfold ik;split
  ·split
   ·rename_i c hcl;intro x hx;rcases anz.1 hx with h|h
    ·exact ha x h
    exact hc _ _ hcl x h
   exact ha
  intro x hx;rcases anz.1 hx with h|h
  ·exact ha x h
  simp only[anu] at h;subst h;exact DC hg t
 induction l generalizing er acc with
 |nil=>exact ha
 |cons t r ih=>
  rw[aY];split
  ·exact hw er acc t ha
  split
  ·exact hw er acc t ha
  exact ih _ _ (hw er acc t ha)
theorem Sl.ints {w:World}{S:Bs}{A:Option Addr}{l:List Int}(h:Sl akL 1 w S A l):∀x∈l,I64 x:=by intro x hx;obtain⟨k,hk⟩:=anP.1 hx;obtain⟨b,o,x',_,_,hx',_,hi⟩:=h.int (anv.1 hk).1;have:=hx'.out;rw[hk] at this;cases this;exact hi
theorem PSt.am2 {w:World}{Bd p gm cm:Nat}{gl:Gl}{s:PS}{rv:Rows}{K:Nat}(h:PSt w Bd p gm cm gl s rv K):∀t l,s.cls.lookup t=some l->∀x∈l,I64 x:=by
 intro t l hl;obtain⟨f,h1,h2⟩:=h.cls;rcases h2 t with⟨g,_⟩|⟨l',A,c,e1,e2,e3,e4⟩
 ·rw[g] at hl;cases hl
 rw[e1] at hl;cases hl;exact e3.ints
end
section
attribute [-go_sem] Builtin.append_
theorem Qw (w:World)(gl:Gl)(s:PS)(t1:B)(r:List B)(ws2:List P3)(hw:ag ws2=r):(jb ws2=none->kR gl s (t1::r)= .error 22)/\(∀rows,jb ws2=some rows->rows.length≠1->kR gl s (t1::r)= .error 22)/\(∀row,jb ws2=some [row]->eP r=some [ag row]):=by
 have h:=mf ws2;rw[hw] at h;refine⟨fun e=> ?_,fun rows e hl=> ?_,fun row e=> ?_⟩
 ·rw[e] at h;exact EL _ _ _ _ fun row e'=>by rw[h] at e';cases e'
 ·rw[e] at h;refine EL _ _ _ _ fun row e'=> ?_
  rw[h] at e';injection e' with e'
  have:=congrArg List.length e';simp at this;exact hl this
 rw[e] at h;exact h
theorem MH (w:World)(Bd p gm cm:Nat)(gl:Gl)(s:PS)(rv:Rows)(K:Nat)(A:Option Addr)(n c:Nat)(ws:List P3)(t:B)(l:List B)(hP:PSt w Bd p gm cm gl s rv K)(hL:alg w A n ws)(hT:ag ws=t::l)(hc:n<=c):
  Calls Tryz.prog 78 #[.pointer (some ⟨p,0,none⟩),.slice A n c] w (akO w Bd p gm cm gl (K+n) (kR gl s l)):=by
 have hn:n=l.length+1:=by rw[<-hL.length];exact dF hT
 have hB:=hP.size;have hnn:=hL.few;cases l with
 |nil=>
  have HR:Hid (kR gl s []= .error 22):=rfl;simp only[ln] at hn;subst hn;clear hP hL hT hc;go_enter Tryz.func78,Tryz.ntmps78
  go_wp2;go_ret
  exact akO.bad HR.out (ant _ _)
 |cons t1 r=>
  have ac2:=hL.length;obtain⟨A',hsub,hrd,hlen⟩:=hL.sub hc 2 2 rfl (by simp at hn;omega);obtain⟨b,o,rfl,hb,q1,hz1⟩:=hL.word (k:=1) (t:=t1) (by rw[hT];rfl) (d:=3) rfl;have hrest:ag (ws.drop 2)=r:=by rw[CU,hT];rfl
  obtain⟨c1,c2,c3⟩:=Qw w gl s t1 r (ws.drop 2) hrest;have hds:(ws.drop 2).length<=1000000000:=by rw[an9];omega
  have hset:=hd0 (Nq w (ws.drop 2) w.heap.size A' (n - 2) (c - 2) hrd.rd (af _) (by omega));have HP:=hd0 hP;have hpb:p<w.heap.size:=hP.par.lt;have qP:=hd0 (fun w rb er h=>yz w rb p er t1 h);have hn2:2<=n:=by simp at hn;omega
  have en:((n:Int)<2)=False:=by simp;omega
  have HC1:=hd0 c1;have HC2:=hd0 c2;have HC3:=hd0 c3;have MP:=hd0 hds;generalize ws.drop 2=ws2 at*
  clear hP hL hT hrd hlen hn hz1 hrest c1 c2 c3 hds;go_enter Tryz.func78,Tryz.ntmps78
  cases hsl:jb ws2 with
  |none=>
   have HR:=hd0 (HC1.out hsl);have hs2:∀e w',gQ 124 119 w ws2 e w'->e= .returned (.tuple #[.slice none 0 0,.bool false])/\Below w.heap.size w w':=fun e w' h=>by unfold gQ at h;rw[hsl] at h;exact h
   have HS2:=hd0 hs2;clear hs2 hsl;go_wp2_with fail
   refine hset.out.mono ?_;rintro e w1 hpost;obtain⟨rfl,hb1⟩:=HS2.out _ _ hpost;clear hpost;go_wp2;go_ret
   exact akO.bad HR.out (hb1.mono hB)
  |some rows=>
   have hs2:∀e w',gQ 124 119 w ws2 e w'->∃v,e= .returned (.tuple #[v,.bool true])/\wu 124 119 w w' rows v:=fun e w' h=>by unfold gQ at h;rw[hsl] at h;exact h
   have HS2:=hd0 hs2;have HSL:=hd0 hsl;clear hs2 hsl;go_wp2_with fail
   refine hset.out.mono ?_;rintro e w1 hpost;obtain⟨v,rfl,A2,c2,hs,rfl,ads,hin,hb1⟩:=HS2.out _ _ hpost;have HB1:=hd0 hb1;have Xk:=hd0 hin;have Hg:=hd0 ads;clear hpost hb1 hin ads;by_cases hone:rows.length=1
   ·obtain⟨row,rfl⟩:∃row,rows=[row]:=by
     match rows,hone with
     |[a],_=>exact⟨a,rfl⟩
    have hsT:=hd0 (HC3.out row HSL.out);have hrow:=(vN HSL.out).2 row (by simp);have hds:=MP.out;obtain⟨Ar,kr,cr,hh0,hrr,hkc⟩:=Xk.out.2 0 row rfl;obtain⟨b2,o2,Fp,rfl,hb2,adN⟩:=Hg.out.2 (by simp);have z2:w1.cell? ⟨b2,o2,none⟩=some (.slice Ar kr cr):=(hb2.cell o2).trans (adN 0 _ hh0);have Cj:b2<w1.heap.size:=hb2.lt;have hkr:kr=row.length:=hrr.rd.alH.symm;have ahX:kr<=1000000000:=by omega
    have HRR:=hd0 hrr;clear hrr hb2 adN hh0 hrow hds hone hkr;simp only[aT,ln,aoc];go_wp2_with fail
    refine(gy w1 p).mono ?_;rintro e w2 ⟨rfl,hr2,hb2⟩;have hs1:=HB1.out.size;have Hb2:Hid (Below w.heap.size w w2):=HB1.out.trans (hb2.mono hs1);have NM:=hd0 (HRR.out.below hb2);have z3:w2.cell? ⟨b2,o2,none⟩=some (.slice Ar kr cr):=((aj hb2).1 _ _ Cj).trans z2;have q2:w2.cell? ⟨b,o+3+2,none⟩=some (.string ⟨t1.toArray⟩):=((aj Hb2.out).1 _ _ hb).trans q1;have hl2:=hr2.lt;have hs2:=hb2.size;have lM:=hd0 hr2;have ahm:=hd0 hb2;clear hr2 hb2;go_wp2_with fail
    refine(qP.out _ _ _ (by exact lM.out)).mono ?_;rintro e w3 ⟨rfl,hr3,hg3⟩;have Hb3:=hd0 (aZ Hb2.out hg3 hs1);have z4:w3.cell? ⟨b2,o2,none⟩=some (.slice Ar kr cr):=((aj (aZ ahm.out hg3 (af _))).1 _ _ Cj).trans z2;have Oc:=hd0 (Ja NM.out lM.out hg3);have EQ:=hd0 ((HP.out.below Hb3.out).at);have lZ:=hd0 hr3;have hs3:=hg3.size;clear hr3 hg3;go_wp2_with fail
    refine(VN w3 w1.heap.size p gm cm gl s.cls (bD 0 t1) Ar kr cr row lZ.out EQ.out Oc.out ahX).mono ?_;rintro e w4 ⟨v,rfl,A5,c5,rfl,xN,nY,hg5⟩;have hb5:=aZ Hb3.out hg5 hs1;have k5:w4.cell? ⟨w1.heap.size,1,none⟩=some (.int .i64 (aY gl s.cls (bD 0 t1) [] (ag row)).1):=nY.cell 1;by_cases her:(aY gl s.cls (bD 0 t1) [] (ag row)).1=0
    ·obtain⟨HRk,hle⟩:=WB gl s t1 r (ag row) hsT.out her;have Su:=RG gl s.cls HP.out.glI HP.out.am2 (bD 0 t1) [] (by simp) (ag row);rw[her] at k5;generalize (aY gl s.cls (bD 0 t1) [] (ag row)).2=res at*
     have aJ:=HP.out.below hb5;obtain⟨f,hf1,hf2⟩:=aJ.cls;have xK:w4.cell? ⟨p,11,none⟩=some (.map (some cm)):=aJ.par.cell 11;have zp:p<w4.heap.size:=aJ.par.lt;have hlk:=hf1.al4 Tryz.underlying114 Tryz.underlying9 (QZ _) t1;have hlk2:(Instr.lookup 114 (.map (some cm)) (.string ⟨t1.toArray⟩) true).run Tryz.prog w4= .ok (.tuple #[(f t1).getD (.slice none 0 0),.bool (f t1).isSome]) w4:=hlk;rcases hf2 t1 with⟨g1,g2⟩|⟨l9,A9,c9,g1,g2,g3,g4⟩
     ·have HR2:Hid (kR gl s (t1::r)= .ok {s with cls:=s.cls++[(t1,res)]}):=by
       show _=_;rw[HRk,g1];rfl
      rw[g2] at hlk2;simp only[Option.getD_none,Option.isSome_none] at hlk2;obtain⟨w9,hput,sK,ax⟩:=hf1.put Tryz.underlying114 Tryz.underlying9 t1 (.slice A5 res.length c5) g2;have aaY:(Instr.mapUpdate 114 (.map (some cm)) (.string ⟨t1.toArray⟩) (.slice A5 res.length c5)).run Tryz.prog w4= .ok () w9:=hput;have ZO:=hd0 (aJ.amJ (l:=res) (Sl.aly xN (Dj _ _ _ Su) (HP.out.fresh xN (by omega) (by decide)) (by decide)) (by omega) g1 hf2 sK ax);have HQ:=hd0 (KQ.below (cm:=cm) hb5);have tX:=hd0 (hb5.mono hB);clear HRk hle Su hf1 hf2 hlk hput sK ax aJ xN nY hg5 hb5 her g1 g2;go_wp2_with fail
      go_ret
      exact akO.good HR2.out (tX.out.trans ZO.out.2.2) (HQ.out.trans ZO.out.2.1) (ZO.out.1.mono (anJ _ _))
     have HR2:Hid (kR gl s (t1::r)= .error 24):=by show _=_;rw[HRk,g1];rfl
     rw[g2] at hlk2;simp only[Option.getD_some,Option.isSome_some] at hlk2;have tX:=hd0 (hb5.mono hB);clear HRk hle Su hf1 hf2 hlk aJ xN nY hg5 hb5 her g1 g2 g3 g4;go_wp2_with fail
     go_ret
     exact akO.bad HR2.out tX.out
    have HR2:=hd0 (VF gl s t1 r (ag row) hsT.out her);generalize (aY gl s.cls (bD 0 t1) [] (ag row)).1=er at*
    generalize (aY gl s.cls (bD 0 t1) [] (ag row)).2=res at*
    have e1:(er==0)=false:=by simpa using her
    have e2:(er !=0)=true:=by simpa using her
    have tX:=hd0 (hb5.mono hB);clear xN nY hg5 hb5 her;go_wp2_with fail
    go_ret
    exact akO.bad HR2.out tX.out
   have HR:=hd0 (HC2.out rows HSL.out hone);have e1:((rows.length:Int)==1)=false:=by simp;omega
   have e2:((rows.length:Int) !=1)=true:=by simp;omega
   clear hone;go_wp2;go_ret
   exact akO.bad HR.out (HB1.out.mono hB)
end
end Go.Proofs.YtkijckccfookeaaGreatDoor
