/- Lemmas. -/
import Derived.Test.YtkijckccfookeaaGreatDoorU21
set_option linter.unusedVariables false
set_option linter.unusedSimpArgs false
set_option maxRecDepth 100000
set_option maxHeartbeats 32000000
namespace Go.Proofs.YtkijckccfookeaaGreatDoor
open Go.RowKit
section
attribute [-go_sem] Builtin.append_
theorem uT (s:PS)(h:akN->akN){init:List akN}{g:akN}(hs:s.f.akJ=init++[g]):sV s h= {s with f:= {s.f with akJ:=init++[h g]}} :=by unfold sV;rw[hs];simp
theorem xy {s:PS}{init:List akN}{g:akN}(hs:s.f.akJ=init++[g]):s.f.akJ≠[]:=by rw[hs];simp
theorem YG (w:World)(S:Bs)(l:List Ins)(h:∀x∈l,I64 x.op/\I64 x.a):Fl akZ 2 w S (qJ l) l:=by
 induction l with
 |nil=>exact Fl.nil
 |cons x r ih=>exact(Fl.one (R:=akZ) (cs:=[.int .i64 x.op,.int .i64 x.a]) ⟨rfl,(h x (by simp)).1,(h x (by simp)).2⟩ rfl).append (ih (fun y hy=>h y (by simp[hy])))
theorem abz (t:B):I64 (sJ t):=by
 unfold sJ;split
 ·have:=List.findIdx_le_length (p:=(· ==t)) (xs:=opNames);rw[yL] at this;exact⟨by omega,by omega⟩
 exact⟨by decide,by decide⟩
theorem RN (l:List B):∀x∈l.map jW,I64 x.op/\I64 x.a:=by
 intro x hx;rw[anZ] at hx;obtain⟨t,_,rfl⟩:=hx;refine⟨abz _,?_⟩;have:(jW t).a=if t.contains 58 then aI (dM 58 t) else 0:=rfl
 rw[this];split
 ·exact dH _
 exact⟨by decide,by decide⟩
theorem afY (w:World)(S:Bs)(l:List Pt)(h:∀x∈l,I64 x.x/\I64 x.y):Fl PtR 3 w S (Bh l) l:=by
 induction l with
 |nil=>exact Fl.nil
 |cons x r ih=>exact(Fl.one (R:=PtR) (cs:=[.int .i64 x.x,.int .i64 x.y,.bool x.on]) ⟨rfl,(h x (by simp)).1,(h x (by simp)).2⟩ rfl).append (ih (fun y hy=>h y (by simp[hy])))
theorem abS (l:List B):∀x∈l.map qR,I64 x.x/\I64 x.y:=by intro x hx;rw[anZ] at hx;obtain⟨t,_,rfl⟩:=hx;exact⟨dH _,dH _⟩
theorem PH (l:List Ins):∀u∈qJ l,u.oneCell'=true:=by intro u hu;simp only[qJ,an8,anG,an4,or_false] at hu;obtain⟨x,_,rfl|rfl⟩:=hu<;>rfl
theorem abP (l:List Pt):∀u∈Bh l,u.oneCell'=true:=by intro u hu;simp only[Bh,an8,anG,an4,or_false] at hu;obtain⟨x,_,rfl|rfl|rfl⟩:=hu<;>rfl
theorem PSt.fresh {w w2:World}{Bd p gm cm:Nat}{gl:Gl}{s:PS}{rv:Rows}{K:Nat}(h:PSt w Bd p gm cm gl s rv K){base e size n c:Nat}{A:Option Addr}{xs:List Value}(ho:w2.ownsRow base e size (.slice A n c) n xs)(hb:w.heap.size<=base)(hd:lK e=true):∀g,(Value.slice A n c).ownBlock=some g->Fz w2 rv g:=by intro g hg;obtain⟨cur,hk⟩:=bg ho hg;refine⟨cur,e,hk,hd,fun j hj e'=> ?_⟩;have h1:=((h.live.own j hj).lt g e').2;have h2:=(ho.lt g hg).1;omega
theorem aav (gl:Gl)(s:PS)(l:List B)(h:l.length≠3):uH gl s l= .error 22:=by
 unfold uH;split
 ·rfl
 split
 ·simp at h
 rfl
theorem PU (w:World)(Bd p gm cm:Nat)(gl:Gl)(s:PS)(rv:Rows)(K:Nat)(A:Option Addr)(n c:Nat)(ws:List P3)(t:B)(l:List B)(hP:PSt w Bd p gm cm gl s rv K)(hL:alg w A n ws)(hT:ag ws=t::l)(hK:K<=10000000000){init:List akN}{g:akN}(hs:s.f.akJ=init++[g]){G n0 c9 q:Nat}(h0:(rv 0).v= .slice (some ⟨G,0,none⟩) n0 c9)(hq:q=init.length*9):
  Calls Tryz.prog 82 #[.pointer (some ⟨p,0,none⟩),.slice A n c,.pointer (some ⟨G,q,none⟩)] w (akO w Bd p gm cm gl (K+n) (uH gl s l)):=by
 have hn:n=l.length+1:=by rw[<-hL.length];exact dF hT
 have hB:=hP.size;by_cases h1:l.length=3
 ·obtain⟨t1,t2,t3,rfl⟩:∃t1 t2 t3,l=[t1,t2,t3]:=by
   match l,h1 with
   |[a1,a2,a3],_=>exact⟨a1,a2,a3,rfl⟩
  obtain⟨b,o,rfl,hb,q1,hz1⟩:=hL.word (k:=1) (t:=t1) (by rw[hT];rfl) (d:=3) rfl;obtain⟨b',o',e',-,q2,hz2⟩:=hL.word (k:=2) (t:=t2) (by rw[hT];rfl) (d:=6) rfl;obtain⟨rfl,rfl⟩:b=b'/\o=o':=by simpa using e'
  clear e';obtain⟨b',o',e',-,q3,hz3⟩:=hL.word (k:=3) (t:=t3) (by rw[hT];rfl) (d:=9) rfl;obtain⟨rfl,rfl⟩:b=b'/\o=o':=by simpa using e'
  clear e';simp only[aT,ln] at hn;subst hn;have HP:=hd0 hP;obtain⟨G',c9',ci,gv,-,-,hGb,ku,AX,uP⟩:=hP.alC hs;obtain⟨rfl,hn0,rfl⟩:G'=G/\init.length+1=n0/\c9'=c9:=by rw[gv] at h0;simpa using h0
  have hpb:G'<w.heap.size:=hGb;obtain⟨A0,c0,hv⟩:=hP.slice (i:=10) (by decide);have kp:w.cell? ⟨G',q+5,none⟩=some (rv 10).v:=by rw[hq];exact ku 5 (by decide)
  rw[hv] at kp;have fp:=AX (q+5);have hfew:=hP.few 10 (by decide);have HR:Hid (uH gl s [t1,t2,t3]=fin (aK (aK (jM gl 0 t1) t2) t3) {s with f:= {s.f with akJ:=init++[{g with parts:=g.parts++[⟨fP gl t1,aI t2,aI t3⟩]}]}}):=by show _=_;unfold uH;rw[if_neg (xy hs)];simp only;rw[uT s _ hs]
  have Hs:=hd0 hs;have Hq:=hd0 hq;have H0:=hd0 h0;have vk:=hd0 uP;have qP:=hd0 (fun w rb er h hm=>zx w rb p gm gl er t1 h hm);have HI1:=hd0 (DC hP.glI t1);have rM:=hd0 (fun w rb er h=>dP w rb p er t2 h hz2);have HI2:=hd0 (dH t2);have AL:=hd0 (fun w rb er h=>dP w rb p er t3 h hz3);have HI3:=hd0 (dH t3);generalize fP gl t1=v1 at*
  generalize aI t2=v2 at*
  generalize aI t3=v3 at*
  clear hP hL hT h1 hz1 hz2 hz3 hs hq h0 gv ku AX uP hn0;go_enter Tryz.func82,Tryz.ntmps82
  go_wp2_with fail
  refine(gy w p).mono ?_;rintro e w1 ⟨rfl,hr1,hb1⟩;obtain⟨hc1,hf1⟩:=aj hb1;have L9:w1.cell? ⟨b,o+3+2,none⟩=some (.string ⟨t1.toArray⟩):=(hc1 _ _ hb).trans q1;have hl1:=hr1.lt;have hs1:=hb1.size;have hbl:b<w1.heap.size:=by omega
  have hbc:b≠w1.heap.size:=by omega
  have hpc:G'≠w1.heap.size:=by omega
  have kP:=hd0 (hr1.alloc (.cells #[.int .i64 0,.int .i64 0,.int .i64 0] 87));have Hb1:=hd0 (hb1.alloc hs1 (.cells #[.int .i64 0,.int .i64 0,.int .i64 0] 87));have sO:Hid (Bk (w1.alloc (.cells #[.int .i64 0,.int .i64 0,.int .i64 0] 87)) w1.heap.size 87 #[.int .i64 0,.int .i64 0,.int .i64 0]):=Bk.new _ _ _;clear hr1 hb1;go_wp2_with fail
  refine(qP.out _ _ _ (by exact kP.out) (by exact(HP.out.below Hb1.out).at.gm)).mono ?_;rintro e w2 ⟨rfl,hr2,hg2⟩;have hb2:=aZ Hb1.out hg2 (af _);obtain⟨hc2,hf2⟩:=aj hb2;have hk2:Bk w2 w1.heap.size 87 #[.int .i64 0,.int .i64 0,.int .i64 0]:=Bk.kept2 hg2 sO.out (by omega);have BN:w2.cell? ⟨w1.heap.size,0,none⟩=some (.int .i64 0):=hk2.cell 0;have adO:w2.cell? ⟨w1.heap.size,1,none⟩=some (.int .i64 0):=hk2.cell 1;have ah0:w2.cell? ⟨w1.heap.size,2,none⟩=some (.int .i64 0):=hk2.cell 2;have y2:=hk2.frozen 0;have hs2:=hk2.lt;have Ur:w2.cell? ⟨b,o+6+2,none⟩=some (.string ⟨t2.toArray⟩):=(hc2 _ _ hb).trans q2;have aho:w2.cell? ⟨b,o+9+2,none⟩=some (.string ⟨t3.toArray⟩):=(hc2 _ _ hb).trans q3;have lM:Hid (Rdr (w2.setCell ⟨w1.heap.size,0,none⟩ (.int .i64 v1)) w.heap.size p (jM gl 0 t1)):=Bk.far hr2 (by simp;omega) _;have Hb2:=hd0 (hb2.setCell (p:=⟨w1.heap.size,0,none⟩) (by simp;omega) (.int .i64 v1));have lC:Hid (Bk (w2.setCell ⟨w1.heap.size,0,none⟩ (.int .i64 v1)) w1.heap.size 87 #[.int .i64 v1,.int .i64 0,.int .i64 0]):=hk2.set 0 _;clear hr2 hg2 hb2 hk2 hc1 hf1;go_wp2_with fail
  refine(rM.out _ _ _ (by exact lM.out)).mono ?_;rintro e w3 ⟨rfl,hr3,hg3⟩;have hb3:=aZ Hb2.out hg3 (af _);obtain⟨hc3,hf3⟩:=aj hb3;have hk3:Bk w3 w1.heap.size 87 #[.int .i64 v1,.int .i64 0,.int .i64 0]:=Bk.kept2 hg3 lC.out (by omega);have Y7:w3.cell? ⟨w1.heap.size,0,none⟩=some (.int .i64 v1):=hk3.cell 0;have FP:w3.cell? ⟨w1.heap.size,1,none⟩=some (.int .i64 0):=hk3.cell 1;have ag4:w3.cell? ⟨w1.heap.size,2,none⟩=some (.int .i64 0):=hk3.cell 2;have y3:=hk3.frozen 1;have hs3:=hk3.lt;have agp:w3.cell? ⟨b,o+9+2,none⟩=some (.string ⟨t3.toArray⟩):=(hc3 _ _ hb).trans q3;have lZ:Hid (Rdr (w3.setCell ⟨w1.heap.size,1,none⟩ (.int .i64 v2)) w.heap.size p (aK (jM gl 0 t1) t2)):=Bk.far hr3 (by simp;omega) _;have Hb3:=hd0 (hb3.setCell (p:=⟨w1.heap.size,1,none⟩) (by simp;omega) (.int .i64 v2));have jX:Hid (Bk (w3.setCell ⟨w1.heap.size,1,none⟩ (.int .i64 v2)) w1.heap.size 87 #[.int .i64 v1,.int .i64 v2,.int .i64 0]):=hk3.set 1 _;clear hr3 hg3 hb3 hk3 hc2 hf2;go_wp2_with fail
  refine(AL.out _ _ _ (by exact lZ.out)).mono ?_;rintro e w4 ⟨rfl,hr4,hg4⟩;have hb4:=aZ Hb3.out hg4 (af _);obtain⟨hc4,hf4⟩:=aj hb4;have hk4:Bk w4 w1.heap.size 87 #[.int .i64 v1,.int .i64 v2,.int .i64 0]:=Bk.kept2 hg4 jX.out (by omega);have ae5:w4.cell? ⟨w1.heap.size,0,none⟩=some (.int .i64 v1):=hk4.cell 0;have agW:w4.cell? ⟨w1.heap.size,1,none⟩=some (.int .i64 v2):=hk4.cell 1;have ahe:w4.cell? ⟨w1.heap.size,2,none⟩=some (.int .i64 0):=hk4.cell 2;have y4:=hk4.frozen 2;have hs4:=hk4.lt;have YE:Hid (Rdr (w4.setCell ⟨w1.heap.size,2,none⟩ (.int .i64 v3)) w.heap.size p (aK (aK (jM gl 0 t1) t2) t3)):=Bk.far hr4 (by simp;omega) _;have Hb4:=hd0 (hb4.setCell (p:=⟨w1.heap.size,2,none⟩) (by simp;omega) (.int .i64 v3));have VW:Hid (Bk (w4.setCell ⟨w1.heap.size,2,none⟩ (.int .i64 v3)) w1.heap.size 87 #[.int .i64 v1,.int .i64 v2,.int .i64 v3]):=hk4.set 2 _;clear hr4 hg4 hb4 hk4 hc3 hf3;go_wp2_with fail
  obtain⟨W1,hW1⟩:∃W1,w4.setCell ⟨w1.heap.size,2,none⟩ (.int .i64 v3)=W1:=⟨_,rfl⟩
  rw[hW1];have Hr:=YE;have Hb:=Hb4;have eY:=VW;rw[hW1] at Hr Hb eY;have vG:W1.cell? ⟨w1.heap.size,0,none⟩=some (.int .i64 v1):=eY.out.cell 0;have xB:W1.cell? ⟨w1.heap.size,1,none⟩=some (.int .i64 v2):=eY.out.cell 1;have Az:W1.cell? ⟨w1.heap.size,2,none⟩=some (.int .i64 v3):=eY.out.cell 2;have aJ:=HP.out.below Hb.out;have xK:W1.cell? ⟨G',q+5,none⟩=some (.slice A0 (rv 10).n c0):=((aj Hb.out).1 _ _ hpb).trans kp;have zp:G'<W1.heap.size:=anD hpb Hb.out.size;have zc:w1.heap.size<W1.heap.size:=eY.out.lt;have zr:w.heap.size<W1.heap.size:=Hr.out.lt;have hown:=aJ.live.own 10 (by decide);rw[hv] at hown;obtain⟨A5,c5,w9,hrun,aS,ax,bi⟩:=iy Xd 54 W1 Bd _ c0 A0 _ #[.int .i64 v1,.int .i64 v2,.int .i64 v3] rfl hown (by simp[Value.oneCell']) (by omega) (by omega);rw[<-hv] at ax bi;have bP:∃cur,Bk w9 G' 59 cur/\cur[q+5]? =some (rv 10).v:=by obtain⟨cur,dB⟩:=vk.out;have h1:Bk w9 G' 59 cur:=Bk.grown (dB.keep (Hb.out.block G' hpb)) ax (aJ.live.own 10 (by decide)) (by decide);exact⟨cur,h1,by rw[<-dB.cell,kp,hv]⟩
  obtain⟨JG,bP,tK⟩:=bP;have jJ:=Bk.grown Hr.out ax (aJ.live.own 10 (by decide)) (by decide);have x9:w9.cell? ⟨G',q+5,none⟩=some (rv 10).v:=(bP.cell _).trans tK;have y9:=bP.frozen (q+5);have z9:w9.cell? ⟨w.heap.size,1,none⟩=some (.int .i64 (aK (aK (jM gl 0 t1) t2) t3)):=jJ.cell 1;generalize her:aK (aK (jM gl 0 t1) t2) t3=er at*
  have bK:=hd0 (PSt.amE (m:=1) (K':=K+n9 3) aJ Hs.out H0.out ax aS bi (ys:=[⟨v1,v2,v3⟩]) rfl (Fl.one (R:=ala) (⟨rfl,HI1.out,HI2.out,HI3.out⟩) rfl) (by unfold n9;simp));rw[<-Hq.out] at bK;have iD:=hd0 (Hb.out.mono hB);have HQ:=hd0 (KQ.below (cm:=cm) Hb.out);clear hW1 hown aS ax bi bP jJ aJ;go_region
  all_goals
   go_wp2;go_ret
   obtain⟨rv',g1,g2,g3,-⟩:=bK.out;exact akO.fin HR.out (iD.out.trans g3) (HQ.out.trans g2) g1
 have HR:=hd0 (aav gl s l h1);have e1:((n:Int)==4)=false:=by simp;omega
 have e2:((n:Int) !=4)=true:=by simp;omega
 clear hP hL hT h1 hn hs h0 hq;go_enter Tryz.func82,Tryz.ntmps82
 go_wp2;go_ret
 exact akO.bad HR.out (ant _ _)
theorem Qy (w:World)(Bd p gm cm:Nat)(gl:Gl)(s:PS)(rv:Rows)(K:Nat)(A:Option Addr)(n c:Nat)(ws:List P3)(t:B)(l:List B)(hP:PSt w Bd p gm cm gl s rv K)(hL:alg w A n ws)(hT:ag ws=t::l)(hK:K<=10000000000)(hc:n<=c)(jH:ali w)(Bj:nT<=Bd){init:List akN}{g:akN}(hs:s.f.akJ=init++[g]){G n0 c9 q:Nat}(h0:(rv 0).v= .slice (some ⟨G,0,none⟩) n0 c9)(hq:q=init.length*9):
  Calls Tryz.prog 85 #[.pointer (some ⟨p,0,none⟩),.slice A n c,.pointer (some ⟨G,q,none⟩)] w (akO w Bd p gm cm gl (K+n) (uG s l)):=by
 have hn:n=l.length+1:=by rw[<-hL.length];exact dF hT
 have hB:=hP.size;have hnn:=hL.few;obtain⟨A',hsub,hrd,hlen⟩:=hL.sub hc 1 1 rfl (by omega);have nX:=hd0 (KL w A' (n - 1) (c - 1) (ws.drop 1) hrd hlen (by omega));have hall:(ws.drop 1).all (fun x=>Me x.2.2)=xW l:=by rw[zX,jO hT];rfl
 rw[hall] at nX;cases hok:xW l with
 |false=>
  rw[hok] at nX;have HR:Hid (uG s l= .error 22):=by show _=_;unfold uG;rw[if_neg (xy hs),if_pos hok]
  clear hok hall hP hL hT hrd hlen jH hn hs h0 hq;go_enter Tryz.func85,Tryz.ntmps85
  go_wp2_with (go_at_call 125;refine nX.out.mono ?_;rintro e w1 ⟨rfl,hb1⟩)
  go_ret
  exact akO.bad HR.out (hb1.mono hB)
 |true=>
  rw[hok] at nX;have HP:=hd0 hP;have HTb:=hd0 jH;obtain⟨G',c9',ci,gv,-,-,hGb,ku,AX,uP⟩:=hP.alC hs;obtain⟨rfl,hn0,rfl⟩:G'=G/\init.length+1=n0/\c9'=c9:=by rw[gv] at h0;simpa using h0
  have hpb:G'<w.heap.size:=hGb;obtain⟨A0,c0,hv⟩:=hP.slice (i:=13) (by decide);have kp:w.cell? ⟨G',q+8,none⟩=some (rv 13).v:=by rw[hq];exact ku 8 (by decide)
  rw[hv] at kp;have hfew:=hP.few 13 (by decide);have HR:Hid (uG s l=fin (l.foldl sQ 0) {s with f:= {s.f with akJ:=init++[{g with hint:=g.hint++l.map jW}]}}):=by show _=_;unfold uG;rw[if_neg (xy hs),if_neg (by rw[hok];simp),uT s _ hs]
  have Hs:=hd0 hs;have Hq:=hd0 hq;have H0:=hd0 h0;have vk:=hd0 uP;have hns:=hd0 (fun w1 rb (hr:Rdr w1 rb p 0) (hb:Below w.heap.size w w1) (dB:w.heap.size<=rb)=>Yt w1 rb p 0 A' (n - 1) (c - 1) (ws.drop 1) (HTb.out.below hb) (nt Bj (nt hB dB)) hr (hrd.below hb) hlen (by omega));rw[jO hT] at hns;have hll:l.length=n - 1:=by omega
  have hfl:=hd0 (fun(w:World) S=>YG w S (l.map jW) (RN l));have hlm:Hid (n - 1=(l.map jW).length):=by show _=_;simp[hll]
  have hone:=hd0 (PH (l.map jW));have acB:n - 1<=n:=by omega
  have hn1:1<=n:=by omega
  clear hP hL hT hrd hlen hll hn jH hall hok hs h0 hq gv ku AX uP hn0;go_enter Tryz.func85,Tryz.ntmps85
  go_wp2_with (go_at_call 125;refine nX.out.mono ?_;rintro e w0 ⟨rfl,hb0⟩)
  go_wp2_with fail
  refine(gy w0 p).mono ?_;rintro e w1 ⟨rfl,hr1,CJ⟩;have hb1:Below w.heap.size w w1:=hb0.trans (CJ.mono hb0.size);have k1:w1.cell? ⟨G',q+8,none⟩=some (.slice A0 (rv 13).n c0):=((aj hb1).1 _ _ hpb).trans kp;have k1d:w1.drew.cell? ⟨G',q+8,none⟩=some (.slice A0 (rv 13).n c0):=k1;have hz0:=hb0.size;have hz1:=hb1.size;have hlr:=hr1.lt;have kP:=hd0 hr1;have Hb1:=hd0 hb1;clear hr1 hb1 hb0 CJ;go_wp2_with fail
  go_region_with (go_at_call 126;refine(hns.out _ _ (by exact kP.out) (by exact Hb1.out.drew) hz0).mono ?_;rintro e w2 ⟨v,rfl,A4,c4,rfl,fJ,hr4,hg4⟩;have hb2:=aZ Hb1.out.drew hg4 hz0;have aJ:=HP.out.below hb2;have hown:=aJ.live.own 13 (by decide);rw[hv] at hown;have BX:=(jl fJ).rd;obtain⟨A5,c5,w9,hrun,aS,ax,bi⟩:=Gf Dq 57 w2 Bd _ c0 A0 _ _ A4 (n - 1) c4 _ hown BX hone.out (by omega) aJ.size;have k2:w2.cell? ⟨G',q+8,none⟩=some (.slice A0 (rv 13).n c0):=((aj hb2).1 _ _ hpb).trans kp;rw[<-hv] at ax bi;obtain⟨JG,bP,tK⟩:∃cur,Bk w9 G' 59 cur/\cur[q+8]? =some (rv 13).v:=(by obtain⟨cur,dB⟩:=vk.out;exact⟨cur,Bk.grown (dB.keep (hb2.block G' hpb)) ax (aJ.live.own 13 (by decide)) (by decide),by rw[<-dB.cell,kp,hv]⟩);have jJ:=Bk.grown hr4 ax (aJ.live.own 13 (by decide)) (by decide);have x9:w9.cell? ⟨G',q+8,none⟩=some (rv 13).v:=(bP.cell _).trans tK;have y9:=bP.frozen (q+8);have z9:w9.cell? ⟨w0.heap.size,1,none⟩=some (.int .i64 (l.foldl sQ 0)):=jJ.cell 1;have bK:=hd0 (PSt.amN (m:=n - 1) (K':=K+n) aJ Hs.out H0.out ax aS bi hlm.out (hfl.out _ _) (by omega));rw[<-Hq.out] at bK;have iD:=hd0 (hb2.mono hB);have HQ:=hd0 (KQ.below (cm:=cm) hb2);clear hown aS ax bi bP jJ aJ hb2 fJ hr4 hg4 BX)
  all_goals
   go_wp2;go_ret
   obtain⟨rv',g1,g2,g3,-⟩:=bK.out;exact akO.fin HR.out (iD.out.trans g3) (HQ.out.trans g2) g1
theorem PY (w:World)(Bd p gm cm:Nat)(gl:Gl)(s:PS)(rv:Rows)(K:Nat)(A:Option Addr)(n c:Nat)(ws:List P3)(t:B)(l:List B)(hP:PSt w Bd p gm cm gl s rv K)(hL:alg w A n ws)(hT:ag ws=t::l)(hK:K<=10000000000)(hc:n<=c)(jH:ali w)(Bj:nT<=Bd):
  Calls Tryz.prog 77 #[.pointer (some ⟨p,0,none⟩),.slice A n c] w (akO w Bd p gm cm gl (K+n) (xA s l)):=by
 have hn:n=l.length+1:=by rw[<-hL.length];exact dF hT
 have hB:=hP.size;have hnn:=hL.few;obtain⟨A',hsub,hrd,hlen⟩:=hL.sub hc 1 1 rfl (by omega);have nX:=hd0 (KL w A' (n - 1) (c - 1) (ws.drop 1) hrd hlen (by omega));have hall:(ws.drop 1).all (fun x=>Me x.2.2)=xW l:=by rw[zX,jO hT];rfl
 rw[hall] at nX;cases hok:xW l with
 |false=>
  rw[hok] at nX;have HR:Hid (xA s l= .error 22):=by show _=_;unfold xA;rw[if_pos hok]
  clear hok hall hP hL hT hrd hlen jH hn;go_enter Tryz.func77,Tryz.ntmps77
  go_wp2_with (go_at_call 125;refine nX.out.mono ?_;rintro e w1 ⟨rfl,hb1⟩)
  go_ret
  exact akO.bad HR.out (hb1.mono hB)
 |true=>
  rw[hok] at nX;have HP:=hd0 hP;have HTb:=hd0 jH;have hpb:p<w.heap.size:=hP.par.lt;obtain⟨A0,c0,hv⟩:=hP.slice (i:=6) (by decide);have kp:w.cell? ⟨p,7,none⟩=some (rv 6).v:=hP.par.cell 7;rw[hv] at kp;have hfew:=hP.few 6 (by decide);have HR:Hid (xA s l=fin (l.foldl sQ 0) {s with f:= {s.f with funcs:=s.f.funcs++[l.map jW]}}):=by show _=_;unfold xA;rw[if_neg (by rw[hok];simp)]
  have hns:=hd0 (fun w1 rb (hr:Rdr w1 rb p 0) (hb:Below w.heap.size w w1) (dB:w.heap.size<=rb)=>Yt w1 rb p 0 A' (n - 1) (c - 1) (ws.drop 1) (HTb.out.below hb) (nt Bj (nt hB dB)) hr (hrd.below hb) hlen (by omega));rw[jO hT] at hns;have hll:l.length=n - 1:=by omega
  have hfl:=hd0 (fun(w:World) S=>YG w S (l.map jW) (RN l));have hlm:Hid (n - 1=(l.map jW).length):=by show _=_;simp[hll]
  have hone:=hd0 (PH (l.map jW));have acB:n - 1<=n:=by omega
  have hn1:1<=n:=by omega
  clear hP hL hT hrd hlen hll hn jH hall hok;go_enter Tryz.func77,Tryz.ntmps77
  go_wp2_with (go_at_call 125;refine nX.out.mono ?_;rintro e w0 ⟨rfl,hb0⟩)
  go_wp2_with fail
  refine(gy w0 p).mono ?_;rintro e w1 ⟨rfl,hr1,CJ⟩;have hb1:Below w.heap.size w w1:=hb0.trans (CJ.mono hb0.size);have k1:w1.cell? ⟨p,7,none⟩=some (.slice A0 (rv 6).n c0):=((aj hb1).1 _ _ hpb).trans kp;have k1d:w1.drew.cell? ⟨p,7,none⟩=some (.slice A0 (rv 6).n c0):=k1;have hz0:=hb0.size;have hz1:=hb1.size;have hlr:=hr1.lt;have kP:=hd0 hr1;have Hb1:=hd0 hb1;clear hr1 hb1 hb0 CJ;go_wp2_with fail
  go_region_with (go_at_call 126;refine(hns.out _ _ (by exact kP.out) (by exact Hb1.out.drew) hz0).mono ?_;rintro e w2 ⟨v,rfl,A4,c4,rfl,fJ,hr4,hg4⟩;have hb2:=aZ Hb1.out.drew hg4 hz0;have aJ:=HP.out.below hb2;have hown:=aJ.live.own 6 (by decide);rw[hv] at hown;obtain⟨A5,c5,w9,hrun,aS,ax,bi⟩:=xh VH 30 w2 Bd _ c0 A0 _ #[.slice A4 (n - 1) c4] rfl hown (by simp[Value.oneCell']) (by omega) aJ.size;have k2:w2.cell? ⟨p,7,none⟩=some (.slice A0 (rv 6).n c0):=((aj hb2).1 _ _ hpb).trans kp;have zp2:p<w2.heap.size:=aJ.par.lt;rw[<-hv] at ax bi;have bP:Bk w9 p jy (dW s rv gm cm):=(aJ.row (i:=6) (by decide) (r:=⟨.slice A5 ((rv 6).n+1) c5,_,_⟩) ax aS bi).1;have jJ:=Bk.grown hr4 ax (aJ.live.own 6 (by decide)) (by decide);have x9:w9.cell? ⟨p,7,none⟩=some (rv 6).v:=bP.cell 7;have y9:=bP.frozen 7;have z9:w9.cell? ⟨w0.heap.size,1,none⟩=some (.int .i64 (l.foldl sQ 0)):=jJ.cell 1;have hel:ak6 w2 (Fz w2 rv) [.slice A4 (n - 1) c4] (l.map jW):=(by rw[hlm.out] at fJ ⊢;exact⟨A4,c4,rfl,Sl.aly fJ (hfl.out _ _) (HP.out.fresh fJ hz1 (by decide)) (by decide)⟩);have bK:=hd0 (PSt.amw (m:=1) (K':=K+n) aJ ax aS bi (ys:=[l.map jW]) rfl (Fl.one (R:=ak6) hel rfl) (by omega));have iD:=hd0 ((hb2.mono hB).trans (aJ.alD (i:=6) (by decide) ax 7 (.slice A5 ((rv 6).n+1) c5) aJ.size));have HQ:=hd0 (KQ.below (cm:=cm) hb2);clear hown aS ax bi bP jJ aJ hb2 fJ hr4 hg4 hel)
  all_goals
   go_wp2;go_ret
   exact akO.fin HR.out iD.out (HQ.out.trans bK.out.2) bK.out.1
end
section
attribute [-go_sem] Builtin.append_
theorem PSt.look {w:World}{Bd p gm cm:Nat}{gl:Gl}{s:PS}{rv:Rows}{K:Nat}(h:PSt w Bd p gm cm gl s rv K)(t:B):(Instr.lookup 112 (.map (some gm)) (.string ⟨t.toArray⟩) false).run Tryz.prog w= .ok (.int .i64 (fP gl t)) w:=by
 have:=h.gmp.look1 Tryz.underlying112 Tryz.underlying9 (Jg _) t;have e:((gl.lookup t).map fun n=>Value.int .i64 (n:Nat)).getD (.int .i64 0)= .int .i64 (fP gl t):=by unfold fP;cases gl.lookup t<;>rfl
 rw[e] at this;exact this
theorem Yk (gl:Gl)(s:PS)(l:List B)(h:l.length≠2)(h3:∀a b,l≠[a,b,iM]):iO gl s l= .error 22:=by
 unfold iO;split
 ·rename_i n a r;rw[if_neg];rintro(e|e)
  ·subst e;exact h rfl
  subst e;exact h3 _ _ rfl
 rfl
theorem Gq (gl:Gl)(s:PS)(t1 t2:B)(r:List B)(hr:r=[]\/r=[iM]):iO gl s (t1::t2::r)=if aK (bD 0 t1) t2≠0 then .error (aK (bD 0 t1) t2) else if fP gl t1≠s.f.akJ.length then .error 24
   else .ok {s with f:= {s.f with akJ:=s.f.akJ++[⟨t1,aI t2,!r.isEmpty,[],[],[],[],[],[]⟩]}} :=by
 show(if r=[]\/r=[iM] then _ else _)=_;rw[if_pos hr]
theorem TC (w:World)(Bd p gm cm:Nat)(gl:Gl)(s:PS)(rv:Rows)(K:Nat)(A:Option Addr)(n c:Nat)(ws:List P3)(t t1 t2:B)(hP:PSt w Bd p gm cm gl s rv K)(hL:alg w A n ws)(hT:ag ws=t::[t1,t2])(hK:K<=10000000000):
  Calls Tryz.prog 79 #[.pointer (some ⟨p,0,none⟩),.slice A n c] w (akO w Bd p gm cm gl (K+n) (iO gl s [t1,t2])):=by
 have hn:n=3:=by rw[<-hL.length];exact dF hT
 have hB:=hP.size;obtain⟨b,o,rfl,hb,q1,hz1⟩:=hL.word (k:=1) (t:=t1) (by rw[hT];rfl) (d:=3) rfl;obtain⟨b',o',e',-,q2,hz2⟩:=hL.word (k:=2) (t:=t2) (by rw[hT];rfl) (d:=6) rfl;obtain⟨rfl,rfl⟩:b=b'/\o=o':=by simpa using e'
 clear e';subst hn;have HP:=hd0 hP;have hpb:p<w.heap.size:=hP.par.lt;obtain⟨A0,c0,hv⟩:=hP.slice (i:=0) (by decide);have kp:w.cell? ⟨p,1,none⟩=some (rv 0).v:=hP.par.cell 1;rw[hv] at kp;have kg:w.cell? ⟨p,10,none⟩=some (.map (some gm)):=hP.par.cell 10;have hfew:=hP.few 0 (by decide);have hlen:=hP.fnt.gly.1;have HLn:=hd0 hlen;have qP:=hd0 (fun w rb er h=>yz w rb p er t1 h);have rM:=hd0 (fun w rb er h=>dP w rb p er t2 h hz2);have HI2:=hd0 (dH t2);have HR:=hd0 (Gq gl s t1 t2 [] (by simp));have Ov:=hd0 (fun w rv K (h:PSt w Bd p gm cm gl s rv K)=>h.look t1);generalize aI t2=v2 at*
 generalize fP gl t1=vg at*
 clear hP hL hT hz1 hz2 hlen;go_enter Tryz.func79,Tryz.ntmps79
 go_wp2_with fail
 refine(gy w p).mono ?_;rintro e w1 ⟨rfl,hr1,hb1⟩;obtain⟨hc1,hf1⟩:=aj hb1;have L9:w1.cell? ⟨b,o+3+2,none⟩=some (.string ⟨t1.toArray⟩):=(hc1 _ _ hb).trans q1;have hl1:=hr1.lt;have hs1:=hb1.size;have hbl:b<w1.heap.size:=by omega
 have hbc:b≠w1.heap.size:=by omega
 have hpc:p≠w1.heap.size:=by omega
 have kP:=hd0 (hr1.alloc (.cells #[.string ⟨#[]⟩,.int .i64 0,.bool false,.slice none 0 0,.slice none 0 0,.slice none 0 0,.slice none 0 0,.slice none 0 0,.slice none 0 0] 59));have Hb1:=hd0 (hb1.alloc hs1 (.cells #[.string ⟨#[]⟩,.int .i64 0,.bool false,.slice none 0 0,.slice none 0 0,.slice none 0 0,.slice none 0 0,.slice none 0 0,.slice none 0 0] 59));have sO:Hid (Bk (w1.alloc (.cells #[.string ⟨#[]⟩,.int .i64 0,.bool false,.slice none 0 0,.slice none 0 0,.slice none 0 0,.slice none 0 0,.slice none 0 0,.slice none 0 0] 59)) w1.heap.size 59 #[.string ⟨#[]⟩,.int .i64 0,.bool false,.slice none 0 0,.slice none 0 0,.slice none 0 0,.slice none 0 0,.slice none 0 0,.slice none 0 0]):=Bk.new _ _ _;clear hr1 hb1 hc1 hf1;go_wp2_with fail
 refine(qP.out _ _ _ (by exact kP.out)).mono ?_;rintro e w2 ⟨rfl,hr2,hg2⟩;have hb2:=aZ Hb1.out hg2 (af _);obtain⟨hc2,hf2⟩:=aj hb2;have hk2:Bk w2 w1.heap.size 59 #[.string ⟨#[]⟩,.int .i64 0,.bool false,.slice none 0 0,.slice none 0 0,.slice none 0 0,.slice none 0 0,.slice none 0 0,.slice none 0 0]:=Bk.kept2 hg2 sO.out (by omega);have BN:w2.cell? ⟨w1.heap.size,0,none⟩=some (.string ⟨#[]⟩):=hk2.cell 0;have y2:=hk2.frozen 0;have hs2:=hk2.lt;have Ur:w2.cell? ⟨b,o+6+2,none⟩=some (.string ⟨t2.toArray⟩):=(hc2 _ _ hb).trans q2;have lM:Hid (Rdr (w2.setCell ⟨w1.heap.size,0,none⟩ (.string ⟨t1.toArray⟩)) w.heap.size p (bD 0 t1)):=Bk.far hr2 (by simp;omega) _;have Hb2:=hd0 (hb2.setCell (p:=⟨w1.heap.size,0,none⟩) (by simp;omega) (.string ⟨t1.toArray⟩));have lC:Hid (Bk (w2.setCell ⟨w1.heap.size,0,none⟩ (.string ⟨t1.toArray⟩)) w1.heap.size 59 #[.string ⟨t1.toArray⟩,.int .i64 0,.bool false,.slice none 0 0,.slice none 0 0,.slice none 0 0,.slice none 0 0,.slice none 0 0,.slice none 0 0]):=hk2.set 0 _;clear hr2 hg2 hb2 hk2 hc2 hf2;go_wp2_with fail
 refine(rM.out _ _ _ (by exact lM.out)).mono ?_;rintro e w3 ⟨rfl,hr3,hg3⟩;have hb3:=aZ Hb2.out hg3 (af _);have hk3:Bk w3 w1.heap.size 59 #[.string ⟨t1.toArray⟩,.int .i64 0,.bool false,.slice none 0 0,.slice none 0 0,.slice none 0 0,.slice none 0 0,.slice none 0 0,.slice none 0 0]:=Bk.kept2 hg3 lC.out (by omega);have FP:w3.cell? ⟨w1.heap.size,1,none⟩=some (.int .i64 0):=hk3.cell 1;have y3:=hk3.frozen 1;have YK:w3.cell? ⟨w.heap.size,1,none⟩=some (.int .i64 (aK (bD 0 t1) t2)):=hr3.cell 1;have lZ:Hid (Rdr (w3.setCell ⟨w1.heap.size,1,none⟩ (.int .i64 v2)) w.heap.size p (aK (bD 0 t1) t2)):=Bk.far hr3 (by simp;omega) _;have Hb3:=hd0 (hb3.setCell (p:=⟨w1.heap.size,1,none⟩) (by simp;omega) (.int .i64 v2));have jX:Hid (Bk (w3.setCell ⟨w1.heap.size,1,none⟩ (.int .i64 v2)) w1.heap.size 59 #[.string ⟨t1.toArray⟩,.int .i64 v2,.bool false,.slice none 0 0,.slice none 0 0,.slice none 0 0,.slice none 0 0,.slice none 0 0,.slice none 0 0]):=hk3.set 1 _;have hrc:w.heap.size≠w1.heap.size:=by omega
 clear hr3 hg3 hb3 hk3;generalize aK (bD 0 t1) t2=er at*
 by_cases he:er=0
 ·subst he;obtain⟨W1,hW1⟩:∃W1,w3.setCell ⟨w1.heap.size,1,none⟩ (.int .i64 v2)=W1:=⟨_,rfl⟩
  have Hr:=lZ;have Hb:=Hb3;have eY:=jX;rw[hW1] at Hr Hb eY;have aJ:=HP.out.below Hb.out;have hlk:=Ov.out _ _ _ aJ;have aaG:(Instr.lookup 112 (.map (some gm)) (.string ⟨t1.toArray⟩) false).run Tryz.prog W1.drew= .ok (.int .i64 vg) W1.drew:=Ov.out W1.drew rv K (aJ.drewN 1);have xK:W1.cell? ⟨p,1,none⟩=some (.slice A0 (rv 0).n c0):=((aj Hb.out).1 _ _ hpb).trans kp;have a_g:W1.cell? ⟨p,10,none⟩=some (.map (some gm)):=((aj Hb.out).1 _ _ hpb).trans kg;have vG:W1.cell? ⟨w1.heap.size,0,none⟩=some (.string ⟨t1.toArray⟩):=eY.out.cell 0;have a_e:W1.cell? ⟨w.heap.size,1,none⟩=some (.int .i64 0):=Hr.out.cell 1;have xB:W1.cell? ⟨w1.heap.size,1,none⟩=some (.int .i64 v2):=eY.out.cell 1;have Az:W1.cell? ⟨w1.heap.size,2,none⟩=some (.bool false):=eY.out.cell 2;have Df:W1.cell? ⟨w1.heap.size,3,none⟩=some (.slice none 0 0):=eY.out.cell 3;have G6:W1.cell? ⟨w1.heap.size,4,none⟩=some (.slice none 0 0):=eY.out.cell 4;have Ic:W1.cell? ⟨w1.heap.size,5,none⟩=some (.slice none 0 0):=eY.out.cell 5;have Wn:W1.cell? ⟨w1.heap.size,6,none⟩=some (.slice none 0 0):=eY.out.cell 6;have WJ:W1.cell? ⟨w1.heap.size,7,none⟩=some (.slice none 0 0):=eY.out.cell 7;have Wq:W1.cell? ⟨w1.heap.size,8,none⟩=some (.slice none 0 0):=eY.out.cell 8;have zp:p<W1.heap.size:=aJ.par.lt;have zc:w1.heap.size<W1.heap.size:=eY.out.lt;have zr:w.heap.size<W1.heap.size:=Hr.out.lt;by_cases wR:vg=((rv 0).n:Int)
  ·have HR2:Hid (iO gl s [t1,t2]= .ok {s with f:= {s.f with akJ:=s.f.akJ++[⟨t1,v2,false,[],[],[],[],[],[]⟩]}}):=by
    show _=_;rw[HR.out,if_neg (by simp),if_neg (by rw[wR,HLn.out];simp)];rfl
   subst wR;go_wp2_with fail
   try rw[hW1]
   go_region
   all_goals
    obtain⟨W2,hW2⟩:∃W2,W1.drew=W2:=⟨_,rfl⟩
    try rw[hW2]
    have b_p:W2.cell? ⟨p,1,none⟩=some (.slice A0 (rv 0).n c0):=by rw[<-hW2];exact xK
    have b_0:W2.cell? ⟨w1.heap.size,0,none⟩=some (.string ⟨t1.toArray⟩):=by rw[<-hW2];exact vG
    have b_1:W2.cell? ⟨w1.heap.size,1,none⟩=some (.int .i64 v2):=by rw[<-hW2];exact xB
    have b_2:W2.cell? ⟨w1.heap.size,2,none⟩=some (.bool false):=by rw[<-hW2];exact Az
    have b_3:W2.cell? ⟨w1.heap.size,3,none⟩=some (.slice none 0 0):=by rw[<-hW2];exact Df
    have b_4:W2.cell? ⟨w1.heap.size,4,none⟩=some (.slice none 0 0):=by rw[<-hW2];exact G6
    have b_5:W2.cell? ⟨w1.heap.size,5,none⟩=some (.slice none 0 0):=by rw[<-hW2];exact Ic
    have b_6:W2.cell? ⟨w1.heap.size,6,none⟩=some (.slice none 0 0):=by rw[<-hW2];exact Wn
    have b_7:W2.cell? ⟨w1.heap.size,7,none⟩=some (.slice none 0 0):=by rw[<-hW2];exact WJ
    have b_8:W2.cell? ⟨w1.heap.size,8,none⟩=some (.slice none 0 0):=by rw[<-hW2];exact Wq
    have x_p:p<W2.heap.size:=by rw[<-hW2];exact zp
    have x_c:w1.heap.size<W2.heap.size:=by rw[<-hW2];exact zc
    have HP2:PSt W2 Bd p gm cm gl s rv K:=by rw[<-hW2];exact aJ.drewN 1
    have HB2:Below w.heap.size w W2:=by rw[<-hW2];exact Hb.out.drew
    have hown:=HP2.live.own 0 (by decide);rw[hv] at hown;obtain⟨A5,c5,w9,hrun,aS,ax,bi⟩:=iy IQ 24 W2 Bd _ c0 A0 _ #[.string ⟨t1.toArray⟩,.int .i64 v2,.bool false,.slice none 0 0,.slice none 0 0,.slice none 0 0,.slice none 0 0,.slice none 0 0,.slice none 0 0] rfl hown (by simp[Value.oneCell']) (by omega) HP2.size;rw[<-hv] at ax bi;have bP:Bk w9 p jy (dW s rv gm cm):=(HP2.row (i:=0) (by decide) (r:=⟨.slice A5 ((rv 0).n+1) c5,_,_⟩) ax aS bi).1;have x9:w9.cell? ⟨p,1,none⟩=some (rv 0).v:=bP.cell 1;have y9:=bP.frozen 1;have bK:=hd0 (HP2.amk (nm:=t1) (adv:=v2) (mk:=false) ax aS bi HI2.out (K':=K+3) (by omega));have iD:=hd0 ((HB2.mono hB).trans (HP2.alD (i:=0) (by decide) ax 1 (.slice A5 ((rv 0).n+1) c5) HP2.size));have HQ:=hd0 (KQ.below (cm:=cm) HB2);clear Ov hlk aaG kP lM lZ Hb1 Hb2 Hb3 sO lC jX qP rM hW1 hW2 BN FP YK y2 y3 hown aS ax bi bP HP2 HB2 aJ Hr Hb eY xK a_g vG xB Az Df G6 Ic Wn WJ Wq a_e;go_wp2_with fail
    go_region
    all_goals
     go_wp2;go_ret
     obtain⟨rv',g1,g2⟩:=bK.out;exact akO.good HR2.out iD.out (HQ.out.trans g2) g1
  have HR2:Hid (iO gl s [t1,t2]= .error 24):=by show _=_;rw[HR.out,if_neg (by simp),if_pos (by rw[<-HLn.out];exact wR)]
  have e3:(vg !=((rv 0).n:Int))=true:=by simpa using wR
  clear wR;go_wp2_with fail
  try rw[hW1]
  go_region
  all_goals
   go_wp2;go_ret
   exact akO.bad HR2.out (Hb.out.drew.mono hB)
 have HR2:Hid (iO gl s [t1,t2]= .error er):=by show _=_;rw[HR.out,if_pos he]
 have e1:(er==0)=false:=by simpa using he
 have e2:(er !=0)=true:=by simpa using he
 clear he;go_wp2;go_ret
 exact akO.bad HR2.out (Hb3.out.mono hB)
end
section
attribute [-go_sem] Builtin.append_
theorem VD (w:World)(Bd p gm cm:Nat)(gl:Gl)(s:PS)(rv:Rows)(K:Nat)(A:Option Addr)(n c:Nat)(ws:List P3)(t t1 t2:B)(hP:PSt w Bd p gm cm gl s rv K)(hL:alg w A n ws)(hT:ag ws=t::[t1,t2,iM])(hK:K<=10000000000):
  Calls Tryz.prog 79 #[.pointer (some ⟨p,0,none⟩),.slice A n c] w (akO w Bd p gm cm gl (K+n) (iO gl s [t1,t2,iM])):=by
 have hn:n=4:=by rw[<-hL.length];exact dF hT
 have hB:=hP.size;obtain⟨b,o,rfl,hb,q1,hz1⟩:=hL.word (k:=1) (t:=t1) (by rw[hT];rfl) (d:=3) rfl;obtain⟨b',o',e',-,q2,hz2⟩:=hL.word (k:=2) (t:=t2) (by rw[hT];rfl) (d:=6) rfl;obtain⟨rfl,rfl⟩:b=b'/\o=o':=by simpa using e'
 clear e';obtain⟨b',o',e',-,q3,hz3⟩:=hL.word (k:=3) (t:=iM) (by rw[hT];rfl) (d:=9) rfl;obtain⟨rfl,rfl⟩:b=b'/\o=o':=by simpa using e'
 clear e' hz3;have hsm:iM.toArray= #[109,97,114,107]:=rfl;rw[hsm] at q3;subst hn;have HP:=hd0 hP;have hpb:p<w.heap.size:=hP.par.lt;obtain⟨A0,c0,hv⟩:=hP.slice (i:=0) (by decide);have kp:w.cell? ⟨p,1,none⟩=some (rv 0).v:=hP.par.cell 1;rw[hv] at kp;have kg:w.cell? ⟨p,10,none⟩=some (.map (some gm)):=hP.par.cell 10;have hfew:=hP.few 0 (by decide);have hlen:=hP.fnt.gly.1;have HLn:=hd0 hlen;have qP:=hd0 (fun w rb er h=>yz w rb p er t1 h);have rM:=hd0 (fun w rb er h=>dP w rb p er t2 h hz2);have HI2:=hd0 (dH t2);have HR:=hd0 (Gq gl s t1 t2 [iM] (by simp));have Ov:=hd0 (fun w rv K (h:PSt w Bd p gm cm gl s rv K)=>h.look t1);generalize aI t2=v2 at*
 generalize fP gl t1=vg at*
 clear hP hL hT hz1 hz2 hlen;go_enter Tryz.func79,Tryz.ntmps79
 go_wp2_with fail
 refine(gy w p).mono ?_;rintro e w1 ⟨rfl,hr1,hb1⟩;obtain⟨hc1,hf1⟩:=aj hb1;have L9:w1.cell? ⟨b,o+3+2,none⟩=some (.string ⟨t1.toArray⟩):=(hc1 _ _ hb).trans q1;have hl1:=hr1.lt;have hs1:=hb1.size;have hbl:b<w1.heap.size:=by omega
 have hbc:b≠w1.heap.size:=by omega
 have hpc:p≠w1.heap.size:=by omega
 have kP:=hd0 (hr1.alloc (.cells #[.string ⟨#[]⟩,.int .i64 0,.bool true,.slice none 0 0,.slice none 0 0,.slice none 0 0,.slice none 0 0,.slice none 0 0,.slice none 0 0] 59));have Hb1:=hd0 (hb1.alloc hs1 (.cells #[.string ⟨#[]⟩,.int .i64 0,.bool true,.slice none 0 0,.slice none 0 0,.slice none 0 0,.slice none 0 0,.slice none 0 0,.slice none 0 0] 59));have sO:Hid (Bk (w1.alloc (.cells #[.string ⟨#[]⟩,.int .i64 0,.bool true,.slice none 0 0,.slice none 0 0,.slice none 0 0,.slice none 0 0,.slice none 0 0,.slice none 0 0] 59)) w1.heap.size 59 #[.string ⟨#[]⟩,.int .i64 0,.bool true,.slice none 0 0,.slice none 0 0,.slice none 0 0,.slice none 0 0,.slice none 0 0,.slice none 0 0]):=Bk.new _ _ _;clear hr1 hb1 hc1 hf1;go_wp2_with fail
 refine(qP.out _ _ _ (by exact kP.out)).mono ?_;rintro e w2 ⟨rfl,hr2,hg2⟩;have hb2:=aZ Hb1.out hg2 (af _);obtain⟨hc2,hf2⟩:=aj hb2;have hk2:Bk w2 w1.heap.size 59 #[.string ⟨#[]⟩,.int .i64 0,.bool true,.slice none 0 0,.slice none 0 0,.slice none 0 0,.slice none 0 0,.slice none 0 0,.slice none 0 0]:=Bk.kept2 hg2 sO.out (by omega);have BN:w2.cell? ⟨w1.heap.size,0,none⟩=some (.string ⟨#[]⟩):=hk2.cell 0;have y2:=hk2.frozen 0;have hs2:=hk2.lt;have Ur:w2.cell? ⟨b,o+6+2,none⟩=some (.string ⟨t2.toArray⟩):=(hc2 _ _ hb).trans q2;have lM:Hid (Rdr (w2.setCell ⟨w1.heap.size,0,none⟩ (.string ⟨t1.toArray⟩)) w.heap.size p (bD 0 t1)):=Bk.far hr2 (by simp;omega) _;have Hb2:=hd0 (hb2.setCell (p:=⟨w1.heap.size,0,none⟩) (by simp;omega) (.string ⟨t1.toArray⟩));have lC:Hid (Bk (w2.setCell ⟨w1.heap.size,0,none⟩ (.string ⟨t1.toArray⟩)) w1.heap.size 59 #[.string ⟨t1.toArray⟩,.int .i64 0,.bool true,.slice none 0 0,.slice none 0 0,.slice none 0 0,.slice none 0 0,.slice none 0 0,.slice none 0 0]):=hk2.set 0 _;clear hr2 hg2 hb2 hk2 hc2 hf2;go_wp2_with fail
 refine(rM.out _ _ _ (by exact lM.out)).mono ?_;rintro e w3 ⟨rfl,hr3,hg3⟩;have hb3:=aZ Hb2.out hg3 (af _);have hk3:Bk w3 w1.heap.size 59 #[.string ⟨t1.toArray⟩,.int .i64 0,.bool true,.slice none 0 0,.slice none 0 0,.slice none 0 0,.slice none 0 0,.slice none 0 0,.slice none 0 0]:=Bk.kept2 hg3 lC.out (by omega);have FP:w3.cell? ⟨w1.heap.size,1,none⟩=some (.int .i64 0):=hk3.cell 1;have y3:=hk3.frozen 1;have YK:w3.cell? ⟨w.heap.size,1,none⟩=some (.int .i64 (aK (bD 0 t1) t2)):=hr3.cell 1;have lZ:Hid (Rdr (w3.setCell ⟨w1.heap.size,1,none⟩ (.int .i64 v2)) w.heap.size p (aK (bD 0 t1) t2)):=Bk.far hr3 (by simp;omega) _;have Hb3:=hd0 (hb3.setCell (p:=⟨w1.heap.size,1,none⟩) (by simp;omega) (.int .i64 v2));have jX:Hid (Bk (w3.setCell ⟨w1.heap.size,1,none⟩ (.int .i64 v2)) w1.heap.size 59 #[.string ⟨t1.toArray⟩,.int .i64 v2,.bool true,.slice none 0 0,.slice none 0 0,.slice none 0 0,.slice none 0 0,.slice none 0 0,.slice none 0 0]):=hk3.set 1 _;have hrc:w.heap.size≠w1.heap.size:=by omega
 clear hr3 hg3 hb3 hk3;generalize aK (bD 0 t1) t2=er at*
 by_cases he:er=0
 ·subst he;obtain⟨W1,hW1⟩:∃W1,w3.setCell ⟨w1.heap.size,1,none⟩ (.int .i64 v2)=W1:=⟨_,rfl⟩
  have Hr:=lZ;have Hb:=Hb3;have eY:=jX;rw[hW1] at Hr Hb eY;have aJ:=HP.out.below Hb.out;have hlk:=Ov.out _ _ _ aJ;have aaG:(Instr.lookup 112 (.map (some gm)) (.string ⟨t1.toArray⟩) false).run Tryz.prog W1.drew= .ok (.int .i64 vg) W1.drew:=Ov.out W1.drew rv K (aJ.drewN 1);have xK:W1.cell? ⟨p,1,none⟩=some (.slice A0 (rv 0).n c0):=((aj Hb.out).1 _ _ hpb).trans kp;have a_g:W1.cell? ⟨p,10,none⟩=some (.map (some gm)):=((aj Hb.out).1 _ _ hpb).trans kg;have vG:W1.cell? ⟨w1.heap.size,0,none⟩=some (.string ⟨t1.toArray⟩):=eY.out.cell 0;have a_e:W1.cell? ⟨w.heap.size,1,none⟩=some (.int .i64 0):=Hr.out.cell 1;have xB:W1.cell? ⟨w1.heap.size,1,none⟩=some (.int .i64 v2):=eY.out.cell 1;have Az:W1.cell? ⟨w1.heap.size,2,none⟩=some (.bool true):=eY.out.cell 2;have Df:W1.cell? ⟨w1.heap.size,3,none⟩=some (.slice none 0 0):=eY.out.cell 3;have G6:W1.cell? ⟨w1.heap.size,4,none⟩=some (.slice none 0 0):=eY.out.cell 4;have Ic:W1.cell? ⟨w1.heap.size,5,none⟩=some (.slice none 0 0):=eY.out.cell 5;have Wn:W1.cell? ⟨w1.heap.size,6,none⟩=some (.slice none 0 0):=eY.out.cell 6;have WJ:W1.cell? ⟨w1.heap.size,7,none⟩=some (.slice none 0 0):=eY.out.cell 7;have Wq:W1.cell? ⟨w1.heap.size,8,none⟩=some (.slice none 0 0):=eY.out.cell 8;have zp:p<W1.heap.size:=aJ.par.lt;have zc:w1.heap.size<W1.heap.size:=eY.out.lt;have zr:w.heap.size<W1.heap.size:=Hr.out.lt;by_cases wR:vg=((rv 0).n:Int)
  ·have HR2:Hid (iO gl s [t1,t2,iM]= .ok {s with f:= {s.f with akJ:=s.f.akJ++[⟨t1,v2,true,[],[],[],[],[],[]⟩]}}):=by
    show _=_;rw[HR.out,if_neg (by simp),if_neg (by rw[wR,HLn.out];simp)];rfl
   subst wR;go_wp2_with fail
   try rw[hW1]
   go_region
   all_goals
    obtain⟨W2,hW2⟩:∃W2,W1.drew=W2:=⟨_,rfl⟩
    try rw[hW2]
    have b_p:W2.cell? ⟨p,1,none⟩=some (.slice A0 (rv 0).n c0):=by rw[<-hW2];exact xK
    have b_0:W2.cell? ⟨w1.heap.size,0,none⟩=some (.string ⟨t1.toArray⟩):=by rw[<-hW2];exact vG
    have b_1:W2.cell? ⟨w1.heap.size,1,none⟩=some (.int .i64 v2):=by rw[<-hW2];exact xB
    have b_2:W2.cell? ⟨w1.heap.size,2,none⟩=some (.bool true):=by rw[<-hW2];exact Az
    have b_3:W2.cell? ⟨w1.heap.size,3,none⟩=some (.slice none 0 0):=by rw[<-hW2];exact Df
    have b_4:W2.cell? ⟨w1.heap.size,4,none⟩=some (.slice none 0 0):=by rw[<-hW2];exact G6
    have b_5:W2.cell? ⟨w1.heap.size,5,none⟩=some (.slice none 0 0):=by rw[<-hW2];exact Ic
    have b_6:W2.cell? ⟨w1.heap.size,6,none⟩=some (.slice none 0 0):=by rw[<-hW2];exact Wn
    have b_7:W2.cell? ⟨w1.heap.size,7,none⟩=some (.slice none 0 0):=by rw[<-hW2];exact WJ
    have b_8:W2.cell? ⟨w1.heap.size,8,none⟩=some (.slice none 0 0):=by rw[<-hW2];exact Wq
    have x_p:p<W2.heap.size:=by rw[<-hW2];exact zp
    have x_c:w1.heap.size<W2.heap.size:=by rw[<-hW2];exact zc
    have HP2:PSt W2 Bd p gm cm gl s rv K:=by rw[<-hW2];exact aJ.drewN 1
    have HB2:Below w.heap.size w W2:=by rw[<-hW2];exact Hb.out.drew
    have hown:=HP2.live.own 0 (by decide);rw[hv] at hown;obtain⟨A5,c5,w9,hrun,aS,ax,bi⟩:=iy IQ 24 W2 Bd _ c0 A0 _ #[.string ⟨t1.toArray⟩,.int .i64 v2,.bool true,.slice none 0 0,.slice none 0 0,.slice none 0 0,.slice none 0 0,.slice none 0 0,.slice none 0 0] rfl hown (by simp[Value.oneCell']) (by omega) HP2.size;rw[<-hv] at ax bi;have bP:Bk w9 p jy (dW s rv gm cm):=(HP2.row (i:=0) (by decide) (r:=⟨.slice A5 ((rv 0).n+1) c5,_,_⟩) ax aS bi).1;have x9:w9.cell? ⟨p,1,none⟩=some (rv 0).v:=bP.cell 1;have y9:=bP.frozen 1;have bK:=hd0 (HP2.amk (nm:=t1) (adv:=v2) (mk:=true) ax aS bi HI2.out (K':=K+4) (by omega));have iD:=hd0 ((HB2.mono hB).trans (HP2.alD (i:=0) (by decide) ax 1 (.slice A5 ((rv 0).n+1) c5) HP2.size));have HQ:=hd0 (KQ.below (cm:=cm) HB2);clear Ov hlk aaG kP lM lZ Hb1 Hb2 Hb3 sO lC jX qP rM hW1 hW2 BN FP YK y2 y3 hown aS ax bi bP HP2 HB2 aJ Hr Hb eY xK a_g vG xB Az Df G6 Ic Wn WJ Wq a_e;go_wp2_with fail
    go_region
    all_goals
     go_wp2;go_ret
     obtain⟨rv',g1,g2⟩:=bK.out;exact akO.good HR2.out iD.out (HQ.out.trans g2) g1
  have HR2:Hid (iO gl s [t1,t2,iM]= .error 24):=by show _=_;rw[HR.out,if_neg (by simp),if_pos (by rw[<-HLn.out];exact wR)]
  have e3:(vg !=((rv 0).n:Int))=true:=by simpa using wR
  clear wR;go_wp2_with fail
  try rw[hW1]
  go_region
  all_goals
   go_wp2;go_ret
   exact akO.bad HR2.out (Hb.out.drew.mono hB)
 have HR2:Hid (iO gl s [t1,t2,iM]= .error er):=by show _=_;rw[HR.out,if_pos he]
 have e1:(er==0)=false:=by simpa using he
 have e2:(er !=0)=true:=by simpa using he
 clear he;go_wp2;go_ret
 exact akO.bad HR2.out (Hb3.out.mono hB)
theorem UV (w:World)(Bd p gm cm:Nat)(gl:Gl)(s:PS)(rv:Rows)(K:Nat)(A:Option Addr)(n c:Nat)(ws:List P3)(t:B)(l:List B)(hP:PSt w Bd p gm cm gl s rv K)(hL:alg w A n ws)(hT:ag ws=t::l)(h2:l.length≠2)(h3:∀a b,l≠[a,b,iM]):
  Calls Tryz.prog 79 #[.pointer (some ⟨p,0,none⟩),.slice A n c] w (akO w Bd p gm cm gl (K+n) (iO gl s l)):=by
 have hn:n=l.length+1:=by rw[<-hL.length];exact dF hT
 have hB:=hP.size;have HR:=hd0 (Yk gl s l h2 h3);by_cases h4:l.length=3
 ·obtain⟨t1,t2,t3,rfl⟩:∃t1 t2 t3,l=[t1,t2,t3]:=by
   match l,h4 with
   |[a,b,c],_=>exact⟨a,b,c,rfl⟩
  obtain⟨b,o,rfl,hb,q3,hz3⟩:=hL.word (k:=3) (t:=t3) (by rw[hT];rfl) (d:=9) rfl;have h5:t3≠iM:=fun e=>h3 t1 t2 (by rw[e])
  have e3:(t3==[109,97,114,107])=false:=by rw[beq_eq_false_iff_ne];exact h5
  simp only[aT,ln] at hn;subst hn;clear hP hL hT h2 h3 h4 h5 hz3;go_enter Tryz.func79,Tryz.ntmps79
  go_wp2;go_ret
  exact akO.bad HR.out (ant _ _)
 have e4:((n:Int)==4)=false:=by simp;omega
 have e3:((n:Int)==3)=false:=by simp;omega
 have e5:((n:Int) !=3)=true:=by simp;omega
 clear hP hL hT h2 h3 h4 hn;go_enter Tryz.func79,Tryz.ntmps79
 go_wp2;go_ret
 exact akO.bad HR.out (ant _ _)
theorem OA (w:World)(Bd p gm cm:Nat)(gl:Gl)(s:PS)(rv:Rows)(K:Nat)(A:Option Addr)(n c:Nat)(ws:List P3)(t:B)(l:List B)(hP:PSt w Bd p gm cm gl s rv K)(hL:alg w A n ws)(hT:ag ws=t::l)(hK:K<=10000000000):
  Calls Tryz.prog 79 #[.pointer (some ⟨p,0,none⟩),.slice A n c] w (akO w Bd p gm cm gl (K+n) (iO gl s l)):=by
 by_cases h2:l.length=2
 ·obtain⟨t1,t2,rfl⟩:∃t1 t2,l=[t1,t2]:=by
   match l,h2 with
   |[a,b],_=>exact⟨a,b,rfl⟩
  exact TC w Bd p gm cm gl s rv K A n c ws t t1 t2 hP hL hT hK
 by_cases h3:∃a b,l=[a,b,iM]
 ·obtain⟨t1,t2,rfl⟩:=h3;exact VD w Bd p gm cm gl s rv K A n c ws t t1 t2 hP hL hT hK
 exact UV w Bd p gm cm gl s rv K A n c ws t l hP hL hT h2 (fun a b e=>h3 ⟨a,b,e⟩)
end
end Go.Proofs.YtkijckccfookeaaGreatDoor
