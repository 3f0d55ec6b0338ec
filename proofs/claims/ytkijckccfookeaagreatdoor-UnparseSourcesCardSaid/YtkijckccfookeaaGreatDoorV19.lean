/- Lemmas. -/
import Derived.Test.YtkijckccfookeaaGreatDoorV18
set_option linter.unusedVariables false
set_option linter.unusedSimpArgs false
set_option maxRecDepth 100000
set_option maxHeartbeats 32000000
namespace Go.Proofs.YtkijckccfookeaaGreatDoor
open Go.RowKit
section
attribute [-go_sem] Builtin.append_
theorem sU (s:PS)(h:ahR->ahR){init:List ahR}{g:ahR}(hs:s.f.ahO=init++[g]):nP s h= {s with f:= {s.f with ahO:=init++[h g]}} :=by unfold nP;rw[hs];simp
theorem vG {s:PS}{init:List ahR}{g:ahR}(hs:s.f.ahO=init++[g]):s.f.ahO≠[]:=by rw[hs];simp
theorem TP (w:World)(S:Bs)(l:List Ins)(h:∀x∈l,I64 x.op/\I64 x.a):Fl ah5 2 w S (pW l) l:=by
 induction l with
 |nil=>exact Fl.nil
 |cons x r ih=>exact(Fl.one (R:=ah5) (cs:=[.int .i64 x.op,.int .i64 x.a]) ⟨rfl,(h x (by simp)).1,(h x (by simp)).2⟩ rfl).append (ih (fun y hy=>h y (by simp[hy])))
theorem ZI (t:B):I64 (qP t):=by
 unfold qP;split
 ·have:=List.findIdx_le_length (p:=(· ==t)) (xs:=opNames);rw[wV] at this;exact⟨by omega,by omega⟩
 exact⟨by decide,by decide⟩
theorem Oc (l:List B):∀x∈l.map jH,I64 x.op/\I64 x.a:=by
 intro x hx;rw[akQ] at hx;obtain⟨t,_,rfl⟩:=hx;refine⟨ZI _,?_⟩;have:(jH t).a=if t.contains 58 then aA (dI 58 t) else 0:=rfl
 rw[this];split
 ·exact dG _
 exact⟨by decide,by decide⟩
theorem acR (w:World)(S:Bs)(l:List Pt)(h:∀x∈l,I64 x.x/\I64 x.y):Fl PtR 3 w S (AQ l) l:=by
 induction l with
 |nil=>exact Fl.nil
 |cons x r ih=>exact(Fl.one (R:=PtR) (cs:=[.int .i64 x.x,.int .i64 x.y,.bool x.on]) ⟨rfl,(h x (by simp)).1,(h x (by simp)).2⟩ rfl).append (ih (fun y hy=>h y (by simp[hy])))
theorem YS (l:List B):∀x∈l.map pX,I64 x.x/\I64 x.y:=by intro x hx;rw[akQ] at hx;obtain⟨t,_,rfl⟩:=hx;exact⟨dG _,dG _⟩
theorem LG (l:List Ins):∀u∈pW l,u.oneCell'=true:=by intro u hu;simp only[pW,akZ,akx,akV,or_false] at hu;obtain⟨x,_,rfl|rfl⟩:=hu<;>rfl
theorem Zf (l:List Pt):∀u∈AQ l,u.oneCell'=true:=by intro u hu;simp only[AQ,akZ,akx,akV,or_false] at hu;obtain⟨x,_,rfl|rfl|rfl⟩:=hu<;>rfl
theorem PSt.fresh {w w2:World}{Bd p gm cm:Nat}{gl:Gl}{s:PS}{rv:Rows}{K:Nat}(h:PSt w Bd p gm cm gl s rv K){base e size n c:Nat}{A:Option Addr}{xs:List Value}(ho:w2.ownsRow base e size (.slice A n c) n xs)(hb:w.heap.size<=base)(hd:lJ e=true):∀g,(Value.slice A n c).ownBlock=some g->Fz w2 rv g:=by intro g hg;obtain⟨cur,hk⟩:=aV ho hg;refine⟨cur,e,hk,hd,fun j hj e'=> ?_⟩;have h1:=((h.live.own j hj).lt g e').2;have h2:=(ho.lt g hg).1;omega
theorem Xw (gl:Gl)(s:PS)(l:List B)(h:l.length≠3):ou gl s l= .error 22:=by
 unfold ou;split
 ·rfl
 split
 ·simp at h
 rfl
theorem NT (w:World)(Bd p gm cm:Nat)(gl:Gl)(s:PS)(rv:Rows)(K:Nat)(A:Option Addr)(n c:Nat)(ws:List P3)(t:B)(l:List B)(hP:PSt w Bd p gm cm gl s rv K)(hL:aif w A n ws)(hT:af ws=t::l)(hK:K<=10000000000){init:List ahR}{g:ahR}(hs:s.f.ahO=init++[g]){G n0 c9 q:Nat}(h0:(rv 0).v= .slice (some ⟨G,0,none⟩) n0 c9)(hq:q=init.length*9):
  Calls Tryz.prog 82 #[.pointer (some ⟨p,0,none⟩),.slice A n c,.pointer (some ⟨G,q,none⟩)] w (ahS w Bd p gm cm gl (K+n) (ou gl s l)):=by
 have hn:n=l.length+1:=by rw[<-hL.length];exact dE hT
 have hB:=hP.size;by_cases h1:l.length=3
 ·obtain⟨t1,t2,t3,rfl⟩:∃t1 t2 t3,l=[t1,t2,t3]:=by
   match l,h1 with
   |[a1,a2,a3],_=>exact⟨a1,a2,a3,rfl⟩
  obtain⟨b,o,rfl,hb,q1,hz1⟩:=hL.word (k:=1) (t:=t1) (by rw[hT];rfl) (d:=3) rfl;obtain⟨b',o',e',-,q2,hz2⟩:=hL.word (k:=2) (t:=t2) (by rw[hT];rfl) (d:=6) rfl;obtain⟨rfl,rfl⟩:b=b'/\o=o':=by simpa using e'
  clear e';obtain⟨b',o',e',-,q3,hz3⟩:=hL.word (k:=3) (t:=t3) (by rw[hT];rfl) (d:=9) rfl;obtain⟨rfl,rfl⟩:b=b'/\o=o':=by simpa using e'
  clear e';simp only[aF,ln] at hn;subst hn;have HP:=hd0 hP;obtain⟨G',c9',ci,gv,-,-,hGb,jJ,yG,sF⟩:=hP.aiz hs;obtain⟨rfl,hn0,rfl⟩:G'=G/\init.length+1=n0/\c9'=c9:=by rw[gv] at h0;simpa using h0
  have hpb:G'<w.heap.size:=hGb;obtain⟨A0,c0,hv⟩:=hP.slice (i:=10) (by decide);have kp:w.cell? ⟨G',q+5,none⟩=some (rv 10).v:=by rw[hq];exact jJ 5 (by decide)
  rw[hv] at kp;have fp:=yG (q+5);have hfew:=hP.few 10 (by decide);have HR:Hid (ou gl s [t1,t2,t3]=fin (aG (aG (jB gl 0 t1) t2) t3) {s with f:= {s.f with ahO:=init++[{g with parts:=g.parts++[⟨fF gl t1,aA t2,aA t3⟩]}]}}):=by show _=_;unfold ou;rw[if_neg (vG hs)];simp only;rw[sU s _ hs]
  have Hs:=hd0 hs;have Hq:=hd0 hq;have H0:=hd0 h0;have tq:=hd0 sF;have uS:=hd0 (fun w rb er h hm=>xP w rb p gm gl er t1 h hm);have HI1:=hd0 (Cb hP.glI t1);have uD:=hd0 (fun w rb er h=>dK w rb p er t2 h hz2);have HI2:=hd0 (dG t2);have TY:=hd0 (fun w rb er h=>dK w rb p er t3 h hz3);have HI3:=hd0 (dG t3);generalize fF gl t1=v1 at*
  generalize aA t2=v2 at*
  generalize aA t3=v3 at*
  clear hP hL hT h1 hz1 hz2 hz3 hs hq h0 gv jJ yG sF hn0;go_enter Tryz.func82,Tryz.ntmps82
  go_wp2_with fail
  refine(fZ w p).mono ?_;rintro e w1 ⟨rfl,hr1,hb1⟩;obtain⟨hc1,hf1⟩:=aj hb1;have KL:w1.cell? ⟨b,o+3+2,none⟩=some (.string ⟨t1.toArray⟩):=(hc1 _ _ hb).trans q1;have hl1:=hr1.lt;have hs1:=hb1.size;have hbl:b<w1.heap.size:=by omega
  have hbc:b≠w1.heap.size:=by omega
  have hpc:G'≠w1.heap.size:=by omega
  have jV:=hd0 (hr1.alloc (.cells #[.int .i64 0,.int .i64 0,.int .i64 0] 87));have Hb1:=hd0 (hb1.alloc hs1 (.cells #[.int .i64 0,.int .i64 0,.int .i64 0] 87));have oL:Hid (Bk (w1.alloc (.cells #[.int .i64 0,.int .i64 0,.int .i64 0] 87)) w1.heap.size 87 #[.int .i64 0,.int .i64 0,.int .i64 0]):=Bk.new _ _ _;clear hr1 hb1;go_wp2_with fail
  refine(uS.out _ _ _ (by exact jV.out) (by exact(HP.out.below Hb1.out).at.gm)).mono ?_;rintro e w2 ⟨rfl,hr2,hg2⟩;have hb2:=aU Hb1.out hg2 (nr _);obtain⟨hc2,hf2⟩:=aj hb2;have hk2:Bk w2 w1.heap.size 87 #[.int .i64 0,.int .i64 0,.int .i64 0]:=Bk.kept2 hg2 oL.out (by omega);have Ae:w2.cell? ⟨w1.heap.size,0,none⟩=some (.int .i64 0):=hk2.cell 0;have aaG:w2.cell? ⟨w1.heap.size,1,none⟩=some (.int .i64 0):=hk2.cell 1;have adx:w2.cell? ⟨w1.heap.size,2,none⟩=some (.int .i64 0):=hk2.cell 2;have y2:=hk2.frozen 0;have hs2:=hk2.lt;have QB:w2.cell? ⟨b,o+6+2,none⟩=some (.string ⟨t2.toArray⟩):=(hc2 _ _ hb).trans q2;have adw:w2.cell? ⟨b,o+9+2,none⟩=some (.string ⟨t3.toArray⟩):=(hc2 _ _ hb).trans q3;have lm:Hid (Rdr (w2.setCell ⟨w1.heap.size,0,none⟩ (.int .i64 v1)) w.heap.size p (jB gl 0 t1)):=Bk.far hr2 (by simp;omega) _;have Hb2:=hd0 (hb2.setCell (p:=⟨w1.heap.size,0,none⟩) (by simp;omega) (.int .i64 v1));have mi:Hid (Bk (w2.setCell ⟨w1.heap.size,0,none⟩ (.int .i64 v1)) w1.heap.size 87 #[.int .i64 v1,.int .i64 0,.int .i64 0]):=hk2.set 0 _;clear hr2 hg2 hb2 hk2 hc1 hf1;go_wp2_with fail
  refine(uD.out _ _ _ (by exact lm.out)).mono ?_;rintro e w3 ⟨rfl,hr3,hg3⟩;have hb3:=aU Hb2.out hg3 (nr _);obtain⟨hc3,hf3⟩:=aj hb3;have hk3:Bk w3 w1.heap.size 87 #[.int .i64 v1,.int .i64 0,.int .i64 0]:=Bk.kept2 hg3 mi.out (by omega);have Wu:w3.cell? ⟨w1.heap.size,0,none⟩=some (.int .i64 v1):=hk3.cell 0;have DD:w3.cell? ⟨w1.heap.size,1,none⟩=some (.int .i64 0):=hk3.cell 1;have aeG:w3.cell? ⟨w1.heap.size,2,none⟩=some (.int .i64 0):=hk3.cell 2;have y3:=hk3.frozen 1;have hs3:=hk3.lt;have adD:w3.cell? ⟨b,o+9+2,none⟩=some (.string ⟨t3.toArray⟩):=(hc3 _ _ hb).trans q3;have lG:Hid (Rdr (w3.setCell ⟨w1.heap.size,1,none⟩ (.int .i64 v2)) w.heap.size p (aG (jB gl 0 t1) t2)):=Bk.far hr3 (by simp;omega) _;have Hb3:=hd0 (hb3.setCell (p:=⟨w1.heap.size,1,none⟩) (by simp;omega) (.int .i64 v2));have nD:Hid (Bk (w3.setCell ⟨w1.heap.size,1,none⟩ (.int .i64 v2)) w1.heap.size 87 #[.int .i64 v1,.int .i64 v2,.int .i64 0]):=hk3.set 1 _;clear hr3 hg3 hb3 hk3 hc2 hf2;go_wp2_with fail
  refine(TY.out _ _ _ (by exact lG.out)).mono ?_;rintro e w4 ⟨rfl,hr4,hg4⟩;have hb4:=aU Hb3.out hg4 (nr _);obtain⟨hc4,hf4⟩:=aj hb4;have hk4:Bk w4 w1.heap.size 87 #[.int .i64 v1,.int .i64 v2,.int .i64 0]:=Bk.kept2 hg4 nD.out (by omega);have aaz:w4.cell? ⟨w1.heap.size,0,none⟩=some (.int .i64 v1):=hk4.cell 0;have ae8:w4.cell? ⟨w1.heap.size,1,none⟩=some (.int .i64 v2):=hk4.cell 1;have afo:w4.cell? ⟨w1.heap.size,2,none⟩=some (.int .i64 0):=hk4.cell 2;have y4:=hk4.frozen 2;have hs4:=hk4.lt;have Tj:Hid (Rdr (w4.setCell ⟨w1.heap.size,2,none⟩ (.int .i64 v3)) w.heap.size p (aG (aG (jB gl 0 t1) t2) t3)):=Bk.far hr4 (by simp;omega) _;have Hb4:=hd0 (hb4.setCell (p:=⟨w1.heap.size,2,none⟩) (by simp;omega) (.int .i64 v3));have Io:Hid (Bk (w4.setCell ⟨w1.heap.size,2,none⟩ (.int .i64 v3)) w1.heap.size 87 #[.int .i64 v1,.int .i64 v2,.int .i64 v3]):=hk4.set 2 _;clear hr4 hg4 hb4 hk4 hc3 hf3;go_wp2_with fail
  obtain⟨W1,hW1⟩:∃W1,w4.setCell ⟨w1.heap.size,2,none⟩ (.int .i64 v3)=W1:=⟨_,rfl⟩
  rw[hW1];have Hr:=Tj;have Hb:=Hb4;have eU:=Io;rw[hW1] at Hr Hb eU;have tN:W1.cell? ⟨w1.heap.size,0,none⟩=some (.int .i64 v1):=eU.out.cell 0;have vK:W1.cell? ⟨w1.heap.size,1,none⟩=some (.int .i64 v2):=eU.out.cell 1;have yV:W1.cell? ⟨w1.heap.size,2,none⟩=some (.int .i64 v3):=eU.out.cell 2;have aB:=HP.out.below Hb.out;have vC:W1.cell? ⟨G',q+5,none⟩=some (.slice A0 (rv 10).n c0):=((aj Hb.out).1 _ _ hpb).trans kp;have zp:G'<W1.heap.size:=aku hpb Hb.out.size;have zc:w1.heap.size<W1.heap.size:=eU.out.lt;have zr:w.heap.size<W1.heap.size:=Hr.out.lt;have hown:=aB.live.own 10 (by decide);rw[hv] at hown;obtain⟨A5,c5,w9,hrun,di,aN,bz⟩:=iE abL 54 W1 Bd _ c0 A0 _ #[.int .i64 v1,.int .i64 v2,.int .i64 v3] rfl hown (by simp[Value.oneCell']) (by omega) (by omega);rw[<-hv] at aN bz;have bI:∃cur,Bk w9 G' 59 cur/\cur[q+5]? =some (rv 10).v:=by obtain⟨cur,aY⟩:=tq.out;have h1:Bk w9 G' 59 cur:=Bk.grown (aY.keep (Hb.out.block G' hpb)) aN (aB.live.own 10 (by decide)) (by decide);exact⟨cur,h1,by rw[<-aY.cell,kp,hv]⟩
  obtain⟨Gi,bI,ru⟩:=bI;have jw:=Bk.grown Hr.out aN (aB.live.own 10 (by decide)) (by decide);have x9:w9.cell? ⟨G',q+5,none⟩=some (rv 10).v:=(bI.cell _).trans ru;have y9:=bI.frozen (q+5);have z9:w9.cell? ⟨w.heap.size,1,none⟩=some (.int .i64 (aG (aG (jB gl 0 t1) t2) t3)):=jw.cell 1;generalize her:aG (aG (jB gl 0 t1) t2) t3=er at*
  have bG:=hd0 (PSt.ajw (m:=1) (K':=K+n9 3) aB Hs.out H0.out aN di bz (ys:=[⟨v1,v2,v3⟩]) rfl (Fl.one (R:=ah6) (⟨rfl,HI1.out,HI2.out,HI3.out⟩) rfl) (by unfold n9;simp));rw[<-Hq.out] at bG;have iy:=hd0 (Hb.out.mono hB);have HQ:=hd0 (KQ.below (cm:=cm) Hb.out);clear hW1 hown di aN bz bI jw aB;go_region
  all_goals
   go_wp2;go_ret
   obtain⟨rv',g1,g2,g3,-⟩:=bG.out;exact ahS.fin HR.out (iy.out.trans g3) (HQ.out.trans g2) g1
 have HR:=hd0 (Xw gl s l h1);have e1:((n:Int)==4)=false:=by simp;omega
 have e2:((n:Int) !=4)=true:=by simp;omega
 clear hP hL hT h1 hn hs h0 hq;go_enter Tryz.func82,Tryz.ntmps82
 go_wp2;go_ret
 exact ahS.bad HR.out (akl _ _)
theorem NV (w:World)(Bd p gm cm:Nat)(gl:Gl)(s:PS)(rv:Rows)(K:Nat)(A:Option Addr)(n c:Nat)(ws:List P3)(t:B)(l:List B)(hP:PSt w Bd p gm cm gl s rv K)(hL:aif w A n ws)(hT:af ws=t::l)(hK:K<=10000000000)(hc:n<=c)(jr:ain w)(yQ:nT<=Bd){init:List ahR}{g:ahR}(hs:s.f.ahO=init++[g]){G n0 c9 q:Nat}(h0:(rv 0).v= .slice (some ⟨G,0,none⟩) n0 c9)(hq:q=init.length*9):
  Calls Tryz.prog 85 #[.pointer (some ⟨p,0,none⟩),.slice A n c,.pointer (some ⟨G,q,none⟩)] w (ahS w Bd p gm cm gl (K+n) (oz s l)):=by
 have hn:n=l.length+1:=by rw[<-hL.length];exact dE hT
 have hB:=hP.size;have hnn:=hL.few;obtain⟨A',hsub,hrd,hlen⟩:=hL.sub hc 1 1 rfl (by omega);have ni:=hd0 (IG w A' (n - 1) (c - 1) (ws.drop 1) hrd hlen (by omega));have hall:(ws.drop 1).all (fun x=>KU x.2.2)=uZ l:=by rw[yF,jA hT];rfl
 rw[hall] at ni;cases hok:uZ l with
 |false=>
  rw[hok] at ni;have HR:Hid (oz s l= .error 22):=by show _=_;unfold oz;rw[if_neg (vG hs),if_pos hok]
  clear hok hall hP hL hT hrd hlen jr hn hs h0 hq;go_enter Tryz.func85,Tryz.ntmps85
  go_wp2_with (go_at_call 125;refine ni.out.mono ?_;rintro e w1 ⟨rfl,hb1⟩)
  go_ret
  exact ahS.bad HR.out (hb1.mono hB)
 |true=>
  rw[hok] at ni;have HP:=hd0 hP;have HTb:=hd0 jr;obtain⟨G',c9',ci,gv,-,-,hGb,jJ,yG,sF⟩:=hP.aiz hs;obtain⟨rfl,hn0,rfl⟩:G'=G/\init.length+1=n0/\c9'=c9:=by rw[gv] at h0;simpa using h0
  have hpb:G'<w.heap.size:=hGb;obtain⟨A0,c0,hv⟩:=hP.slice (i:=13) (by decide);have kp:w.cell? ⟨G',q+8,none⟩=some (rv 13).v:=by rw[hq];exact jJ 8 (by decide)
  rw[hv] at kp;have hfew:=hP.few 13 (by decide);have HR:Hid (oz s l=fin (l.foldl qR 0) {s with f:= {s.f with ahO:=init++[{g with hint:=g.hint++l.map jH}]}}):=by show _=_;unfold oz;rw[if_neg (vG hs),if_neg (by rw[hok];simp),sU s _ hs]
  have Hs:=hd0 hs;have Hq:=hd0 hq;have H0:=hd0 h0;have tq:=hd0 sF;have hns:=hd0 (fun w1 rb (hr:Rdr w1 rb p 0) (hb:Below w.heap.size w w1) (aY:w.heap.size<=rb)=>Uw w1 rb p 0 A' (n - 1) (c - 1) (ws.drop 1) (HTb.out.below hb) (nt yQ (nt hB aY)) hr (hrd.below hb) hlen (by omega));rw[jA hT] at hns;have hll:l.length=n - 1:=by omega
  have hfl:=hd0 (fun(w:World) S=>TP w S (l.map jH) (Oc l));have hlm:Hid (n - 1=(l.map jH).length):=by show _=_;simp[hll]
  have hone:=hd0 (LG (l.map jH));have aaR:n - 1<=n:=by omega
  have hn1:1<=n:=by omega
  clear hP hL hT hrd hlen hll hn jr hall hok hs h0 hq gv jJ yG sF hn0;go_enter Tryz.func85,Tryz.ntmps85
  go_wp2_with (go_at_call 125;refine ni.out.mono ?_;rintro e w0 ⟨rfl,hb0⟩)
  go_wp2_with fail
  refine(fZ w0 p).mono ?_;rintro e w1 ⟨rfl,hr1,zi⟩;have hb1:Below w.heap.size w w1:=hb0.trans (zi.mono hb0.size);have k1:w1.cell? ⟨G',q+8,none⟩=some (.slice A0 (rv 13).n c0):=((aj hb1).1 _ _ hpb).trans kp;have k1d:w1.drew.cell? ⟨G',q+8,none⟩=some (.slice A0 (rv 13).n c0):=k1;have hz0:=hb0.size;have hz1:=hb1.size;have hlr:=hr1.lt;have jV:=hd0 hr1;have Hb1:=hd0 hb1;clear hr1 hb1 hb0 zi;go_wp2_with fail
  go_region_with (go_at_call 126;refine(hns.out _ _ (by exact jV.out) (by exact Hb1.out.drew) hz0).mono ?_;rintro e w2 ⟨v,rfl,A4,c4,rfl,fD,hr4,hg4⟩;have hb2:=aU Hb1.out.drew hg4 hz0;have aB:=HP.out.below hb2;have hown:=aB.live.own 13 (by decide);rw[hv] at hown;have zO:=(jf fD).rd;obtain⟨A5,c5,w9,hrun,di,aN,bz⟩:=DW Fb 57 w2 Bd _ c0 A0 _ _ A4 (n - 1) c4 _ hown zO hone.out (by omega) aB.size;have k2:w2.cell? ⟨G',q+8,none⟩=some (.slice A0 (rv 13).n c0):=((aj hb2).1 _ _ hpb).trans kp;rw[<-hv] at aN bz;obtain⟨Gi,bI,ru⟩:∃cur,Bk w9 G' 59 cur/\cur[q+8]? =some (rv 13).v:=(by obtain⟨cur,aY⟩:=tq.out;exact⟨cur,Bk.grown (aY.keep (hb2.block G' hpb)) aN (aB.live.own 13 (by decide)) (by decide),by rw[<-aY.cell,kp,hv]⟩);have jw:=Bk.grown hr4 aN (aB.live.own 13 (by decide)) (by decide);have x9:w9.cell? ⟨G',q+8,none⟩=some (rv 13).v:=(bI.cell _).trans ru;have y9:=bI.frozen (q+8);have z9:w9.cell? ⟨w0.heap.size,1,none⟩=some (.int .i64 (l.foldl qR 0)):=jw.cell 1;have bG:=hd0 (PSt.ajN (m:=n - 1) (K':=K+n) aB Hs.out H0.out aN di bz hlm.out (hfl.out _ _) (by omega));rw[<-Hq.out] at bG;have iy:=hd0 (hb2.mono hB);have HQ:=hd0 (KQ.below (cm:=cm) hb2);clear hown di aN bz bI jw aB hb2 fD hr4 hg4 zO)
  all_goals
   go_wp2;go_ret
   obtain⟨rv',g1,g2,g3,-⟩:=bG.out;exact ahS.fin HR.out (iy.out.trans g3) (HQ.out.trans g2) g1
theorem MX (w:World)(Bd p gm cm:Nat)(gl:Gl)(s:PS)(rv:Rows)(K:Nat)(A:Option Addr)(n c:Nat)(ws:List P3)(t:B)(l:List B)(hP:PSt w Bd p gm cm gl s rv K)(hL:aif w A n ws)(hT:af ws=t::l)(hK:K<=10000000000)(hc:n<=c)(jr:ain w)(yQ:nT<=Bd):
  Calls Tryz.prog 77 #[.pointer (some ⟨p,0,none⟩),.slice A n c] w (ahS w Bd p gm cm gl (K+n) (qW s l)):=by
 have hn:n=l.length+1:=by rw[<-hL.length];exact dE hT
 have hB:=hP.size;have hnn:=hL.few;obtain⟨A',hsub,hrd,hlen⟩:=hL.sub hc 1 1 rfl (by omega);have ni:=hd0 (IG w A' (n - 1) (c - 1) (ws.drop 1) hrd hlen (by omega));have hall:(ws.drop 1).all (fun x=>KU x.2.2)=uZ l:=by rw[yF,jA hT];rfl
 rw[hall] at ni;cases hok:uZ l with
 |false=>
  rw[hok] at ni;have HR:Hid (qW s l= .error 22):=by show _=_;unfold qW;rw[if_pos hok]
  clear hok hall hP hL hT hrd hlen jr hn;go_enter Tryz.func77,Tryz.ntmps77
  go_wp2_with (go_at_call 125;refine ni.out.mono ?_;rintro e w1 ⟨rfl,hb1⟩)
  go_ret
  exact ahS.bad HR.out (hb1.mono hB)
 |true=>
  rw[hok] at ni;have HP:=hd0 hP;have HTb:=hd0 jr;have hpb:p<w.heap.size:=hP.par.lt;obtain⟨A0,c0,hv⟩:=hP.slice (i:=6) (by decide);have kp:w.cell? ⟨p,7,none⟩=some (rv 6).v:=hP.par.cell 7;rw[hv] at kp;have hfew:=hP.few 6 (by decide);have HR:Hid (qW s l=fin (l.foldl qR 0) {s with f:= {s.f with funcs:=s.f.funcs++[l.map jH]}}):=by show _=_;unfold qW;rw[if_neg (by rw[hok];simp)]
  have hns:=hd0 (fun w1 rb (hr:Rdr w1 rb p 0) (hb:Below w.heap.size w w1) (aY:w.heap.size<=rb)=>Uw w1 rb p 0 A' (n - 1) (c - 1) (ws.drop 1) (HTb.out.below hb) (nt yQ (nt hB aY)) hr (hrd.below hb) hlen (by omega));rw[jA hT] at hns;have hll:l.length=n - 1:=by omega
  have hfl:=hd0 (fun(w:World) S=>TP w S (l.map jH) (Oc l));have hlm:Hid (n - 1=(l.map jH).length):=by show _=_;simp[hll]
  have hone:=hd0 (LG (l.map jH));have aaR:n - 1<=n:=by omega
  have hn1:1<=n:=by omega
  clear hP hL hT hrd hlen hll hn jr hall hok;go_enter Tryz.func77,Tryz.ntmps77
  go_wp2_with (go_at_call 125;refine ni.out.mono ?_;rintro e w0 ⟨rfl,hb0⟩)
  go_wp2_with fail
  refine(fZ w0 p).mono ?_;rintro e w1 ⟨rfl,hr1,zi⟩;have hb1:Below w.heap.size w w1:=hb0.trans (zi.mono hb0.size);have k1:w1.cell? ⟨p,7,none⟩=some (.slice A0 (rv 6).n c0):=((aj hb1).1 _ _ hpb).trans kp;have k1d:w1.drew.cell? ⟨p,7,none⟩=some (.slice A0 (rv 6).n c0):=k1;have hz0:=hb0.size;have hz1:=hb1.size;have hlr:=hr1.lt;have jV:=hd0 hr1;have Hb1:=hd0 hb1;clear hr1 hb1 hb0 zi;go_wp2_with fail
  go_region_with (go_at_call 126;refine(hns.out _ _ (by exact jV.out) (by exact Hb1.out.drew) hz0).mono ?_;rintro e w2 ⟨v,rfl,A4,c4,rfl,fD,hr4,hg4⟩;have hb2:=aU Hb1.out.drew hg4 hz0;have aB:=HP.out.below hb2;have hown:=aB.live.own 6 (by decide);rw[hv] at hown;obtain⟨A5,c5,w9,hrun,di,aN,bz⟩:=vF abM 30 w2 Bd _ c0 A0 _ #[.slice A4 (n - 1) c4] rfl hown (by simp[Value.oneCell']) (by omega) aB.size;have k2:w2.cell? ⟨p,7,none⟩=some (.slice A0 (rv 6).n c0):=((aj hb2).1 _ _ hpb).trans kp;have zp2:p<w2.heap.size:=aB.par.lt;rw[<-hv] at aN bz;have bI:Bk w9 p jq (dV s rv gm cm):=(aB.row (i:=6) (by decide) (r:=⟨.slice A5 ((rv 6).n+1) c5,_,_⟩) aN di bz).1;have jw:=Bk.grown hr4 aN (aB.live.own 6 (by decide)) (by decide);have x9:w9.cell? ⟨p,7,none⟩=some (rv 6).v:=bI.cell 7;have y9:=bI.frozen 7;have z9:w9.cell? ⟨w0.heap.size,1,none⟩=some (.int .i64 (l.foldl qR 0)):=jw.cell 1;have hel:aih w2 (Fz w2 rv) [.slice A4 (n - 1) c4] (l.map jH):=(by rw[hlm.out] at fD ⊢;exact⟨A4,c4,rfl,Sl.aiC fD (hfl.out _ _) (HP.out.fresh fD hz1 (by decide)) (by decide)⟩);have bG:=hd0 (PSt.ajz (m:=1) (K':=K+n) aB aN di bz (ys:=[l.map jH]) rfl (Fl.one (R:=aih) hel rfl) (by omega));have iy:=hd0 ((hb2.mono hB).trans (aB.aiA (i:=6) (by decide) aN 7 (.slice A5 ((rv 6).n+1) c5) aB.size));have HQ:=hd0 (KQ.below (cm:=cm) hb2);clear hown di aN bz bI jw aB hb2 fD hr4 hg4 hel)
  all_goals
   go_wp2;go_ret
   exact ahS.fin HR.out iy.out (HQ.out.trans bG.out.2) bG.out.1
end
section
theorem nine {w w':World}{b:Nat}{t:TypeId}{v0 v1 v2 v3 v4 v5 v6 v7 v8:Value}(h:Bk w b t #[v0,v1,v2,v3,v4,v5,v6,v7,v8])(hb:Below w.heap.size w w'):
  w'.cell? ⟨b,0,none⟩=some v0/\w'.cell? ⟨b,1,none⟩=some v1/\w'.cell? ⟨b,2,none⟩=some v2/\w'.cell? ⟨b,3,none⟩=some v3/\w'.cell? ⟨b,4,none⟩=some v4/\w'.cell? ⟨b,5,none⟩=some v5/\w'.cell? ⟨b,6,none⟩=some v6/\w'.cell? ⟨b,7,none⟩=some v7/\w'.cell? ⟨b,8,none⟩=some v8:=
 ⟨h.at hb 0 rfl,h.at hb 1 rfl,h.at hb 2 rfl,h.at hb 3 rfl,h.at hb 4 rfl,h.at hb 5 rfl,h.at hb 6 rfl,h.at hb 7 rfl,h.at hb 8 rfl⟩
structure ajf (n m:Nat)(g:ahR):Prop where
 name:nameB g.name=true
 adv:N9 g.advance
 pts:g.points.length<=200/\∀p∈g.points,N9 p.x/\N9 p.y
 ends:g.ends.length<=40/\kX 0 g.ends g.points.length
 parts:g.parts.length<=8/\∀p∈g.parts,In n p.ahU/\N9 p.x/\N9 p.y
 anch:g.anchors.length<=16/\∀a∈g.anchors,1<=a.kind/\a.kind<=4/\N9 a.cls/\N9 a.x/\N9 a.y
 aid:g.deltas.length<=400/\∀d∈g.deltas,In m d.region/\(-1<=d.point/\d.point<g.points.length)/\N9 d.x/\N9 d.y
 hint:g.hint.length<=200/\xg g.hint
structure ajI (g:ahR):Prop where
 name:Big g.name.length
 pts:Big g.points.length
 ends:Big g.ends.length
 parts:Big g.parts.length
 anch:Big g.anchors.length
 aid:Big g.deltas.length
 hint:Big g.hint.length
theorem Vl (w:World)(f:Fnt)(A1 A2 A3 A4 A5 A6 A7 A8:Option Addr)(c1 c2 c3 c4 c5 c6 c7 c8:Nat)(k:Nat)(hF:FIn ⟨A1,c1,A2,c2,A3,c3,A4,c4,A5,c5,A6,c6,A7,c7,A8,c8⟩ f w)(g:ahR)(hg:f.ahO[k]? =some g)(hk:k<f.ahO.length)(hbn:Big f.ahO.length)(hbr:Big f.regions.length)(hB:ajI g):Calls Tryz.prog 109 #[.agg #[.int .i64 f.unit,.slice A1 f.ahO.length c1,.slice A2 f.chars.length c2,.slice A3 f.ahP.length c3,.slice A4 f.features.length c4,.slice A5 f.ahQ.length c5,.slice A6 f.regions.length c6,.slice A7 f.funcs.length c7,.slice A8 f.cvt.length c8],.int .i64 k] w (OkE w (ajf f.ahO.length f.regions.length g/\∀j x,j<k->f.ahO[j]? =some x->x.name≠g.name)):=by
 obtain⟨P,HP⟩:∃P:Prop,Hid (P=(ajf f.ahO.length f.regions.length g/\∀j x,j<k->f.ahO[j]? =some x->x.name≠g.name)):=⟨_,rfl⟩
 rw[<-HP.out];unfold Big at hbn;have HG:=hd0 hg;obtain⟨Wf,hWf,hbf,bW⟩:=aQ w 32 #[.int .i64 f.unit,.slice A1 f.ahO.length c1,.slice A2 f.chars.length c2,.slice A3 f.ahP.length c3,.slice A4 f.features.length c4,.slice A5 f.ahQ.length c5,.slice A6 f.regions.length c6,.slice A7 f.funcs.length c7,.slice A8 f.cvt.length c8];have aZ:Hid (Below w.heap.size w Wf):=hd0 hbf;have lg:=hd0 bW;have kN:=hd0 (hF.below hbf);obtain⟨b,o,x,B3,d3,B4,d4,B5,d5,B6,d6,B7,d7,B8,d8,hA1,hb,hx,q0,q1,q2,q3,q4,q5,q6,q7,q8,r1,s3,s4,s5,s6,s7,s8⟩:=kN.out.ahO.ahU (k:=k) hk;simp only at hA1;subst hA1;obtain rfl:x=g:=by have:=hx.out;rw[HG.out] at this;exact(Option.some.inj this).symm
 obtain⟨Wg,oH,hbg,hkg⟩:=aQ Wf 59 #[.string ⟨x.name.toArray⟩,.int .i64 x.advance,.bool x.mark,.slice B3 x.points.length d3,.slice B4 x.ends.length d4,.slice B5 x.parts.length d5,.slice B6 x.anchors.length d6,.slice B7 x.deltas.length d7,.slice B8 x.hint.length d8];have dh:Hid (Below w.heap.size w Wg):=hd0 (aZ.out.trans (hbg.mono aZ.out.size));have ak:=hd0 hkg;have aH:Hid (Bk Wg w.heap.size 32 #[.int .i64 f.unit,.slice (some ⟨b,o,none⟩) f.ahO.length c1,.slice A2 f.chars.length c2,.slice A3 f.ahP.length c3,.slice A4 f.features.length c4,.slice A5 f.ahQ.length c5,.slice A6 f.regions.length c6,.slice A7 f.funcs.length c7,.slice A8 f.cvt.length c8]):=hd0 (Bk.bel bW hbg);have hzg:=dh.out.size;have k1:=bW.cell 1;have m0:=hkg.cell 0;replace s3:=s3.lw PtR.ok hbg;replace s4:=s4.lw ahT.ok hbg;replace s5:=s5.lw ah6.ok hbg;replace s6:=s6.lw ahY.ok hbg;replace s7:=s7.lw ah3.ok hbg;replace s8:=s8.lw ah5.ok hbg;have H3:=hd0 s3;have H4:=hd0 s4;have H5:=hd0 s5;have H6:=hd0 s6;have H7:=hd0 s7;have H8:=hd0 s8;have HGl:=hd0 (kN.out.ahO.lw ahW.ok hbg);clear hb r1 s3 s4 s5 s6 s7 s8 hF hg hx;have bn1:decide ((k:Int)<0)=false:=decide_eq_false (by omega);have bn2:decide ((f.ahO.length:Int)<=(k:Int))=false:=decide_eq_false (by omega);go_enter Tryz.func109,Tryz.ntmps109
 go_wp2_with fail
 refine(MH _ x.name hB.name).mono ?_;rintro e w4 ⟨bn,rfl,XT,hb4⟩;have HB4:Hid (Below Wg.heap.size Wg w4):=hd0 hb4;have E4:Hid (Below w.heap.size w w4):=hd0 (dh.out.trans (hb4.mono hzg))
 try clear hWf
 try clear oH
 clear k1 m0 q0 q1 q2 q3 q4 q5 q6 q7 q8 hbf bW hbg hkg;cases bn
 ·clear XT hb4;go_wp2_with fail
  go_ret
  exact OkE.bad _ (by decide) E4.out
 have HN:=hd0 (XT rfl);clear XT hb4;go_wp2_with fail
 go_loopw [7] (fun i wr=>∃j:Nat,j<=k/\i= .int .i64 j/\Hid (∀q y,q<j->f.ahO[q]? =some y->y.name≠x.name)/\Below Wg.heap.size Wg wr) (fun i _=>k - (intOf i).toNat)
 case atStart=>exact⟨0,by omega,rfl,hd0 (fun q y h=>by omega),HB4.out⟩
 case round=>
  obtain⟨w5,rfl⟩:∃x,x=wr:=⟨_,rfl⟩
  obtain⟨j,hj,rfl,hne,hb5⟩:=hrel;have iD:Hid (Below Wg.heap.size Wg w5):=hd0 hb5;have E5:Hid (Below w.heap.size w w5):=hd0 (dh.out.trans (hb5.mono hzg));have x1:=aH.out.at hb5 1 rfl;have y0:=ak.out.at hb5 0 rfl;by_cases hjk:j<k
  ·obtain⟨b2,o2,z,Z3,t3,Z4,t4,Z5,t5,Z6,t6,Z7,t7,Z8,t8,e2,hb2,hz,v0,-⟩:=(HGl.out.lw ahW.ok hb5).ahU (k:=j) (by omega);obtain⟨rfl,rfl⟩:b=b2/\o=o2:=by simpa using e2
   clear hb2 e2 hb5;by_cases hnm:z.name=x.name
   ·have hq2:(z.name==x.name)=true:=by rw[hnm];simp
    clear hnm;go_wp2_with fail
    go_quiet (fail)
    go_wp2_with fail
    go_ret
    exact OkE.bad _ (by decide) (below_drewN E5.out _)
   have hq2:(z.name==x.name)=false:=by simpa using hnm
   have hne2:Hid (∀q y,q<j+1->f.ahO[q]? =some y->y.name≠x.name):=hd0 fun q y hq hy=>by
    by_cases hqj:q=j
    ·subst hqj;rw[hz.out] at hy;exact Option.some.inj hy ▸ hnm
    exact hne.out q y (by omega) hy
   clear hnm hz;go_wp2_with fail
   go_quiet (fail)
   go_wp2_with fail
   go_roundw
   case rel=>exact⟨j+1,by omega,by simp,hne2,below_drewN iD.out _⟩
   case measure=>simp[intOf];omega
  obtain rfl:j=k:=by omega
  have y1:=ak.out.at hb5 1 rfl;have y3:=ak.out.at hb5 3 rfl;have y4:=ak.out.at hb5 4 rfl;clear hb5 y0 x1;by_cases h1:x.advance<0
  ·have bh1:decide (x.advance<0)=true:=decide_eq_true h1;go_wp2_with fail
   go_ret
   exact OkE.bad _ (by decide) E5.out
  have bh1:decide (x.advance<0)=false:=decide_eq_false h1;by_cases h2:16384<x.advance
  ·have mf:decide (16384<x.advance)=true:=decide_eq_true h2;go_wp2_with fail
   go_ret
   exact OkE.bad _ (by decide) E5.out
  have mf:decide (16384<x.advance)=false:=decide_eq_false h2;by_cases h3:200<x.points.length
  ·have kM:decide ((200:Int)<x.points.length)=true:=decide_eq_true (by omega);go_wp2_with fail
   go_ret
   exact OkE.bad _ (by decide) E5.out
  have kM:decide ((200:Int)<x.points.length)=false:=decide_eq_false (by omega);by_cases h4:40<x.ends.length
  ·have uK:decide ((40:Int)<x.ends.length)=true:=decide_eq_true (by omega);go_wp2_with fail
   go_ret
   exact OkE.bad _ (by decide) E5.out
  have uK:decide ((40:Int)<x.ends.length)=false:=decide_eq_false (by omega);go_wp2_with fail
  go_loopw [8] (fun i wr=>∃q:Nat,q<=x.points.length/\i= .int .i64 q/\Hid (Up x.points q (fun p=>N9 p.x/\N9 p.y))/\Below Wg.heap.size Wg wr) (fun i _=>x.points.length - (intOf i).toNat)
  case atStart=>exact⟨0,by omega,rfl,hd0 (Up.zero _ _),iD.out⟩
  case round=>
   obtain⟨w6,rfl⟩:∃x,x=wr:=⟨_,rfl⟩
   obtain⟨q,hq,rfl,hup,hb6⟩:=hrel;have gY:Hid (Below Wg.heap.size Wg w6):=hd0 hb6;have E6:Hid (Below w.heap.size w w6):=hd0 (dh.out.trans (hb6.mono hzg));clear y1 y3 y4;have y3:=ak.out.at hb6 3 rfl;have y4:=ak.out.at hb6 4 rfl;by_cases hqt:q<x.points.length
   ·obtain⟨b3,o3,p,rfl,hb3,hp,v0,v1,-,-,-⟩:=(H3.out.lw PtR.ok hb6).pt hqt;clear hb3 hb6;by_cases m1:fO p.x=false
    ·go_wp2_with (first|(go_at_call 116;refine(dD _ _).mono ?_;rintro e w' ⟨rfl,rfl⟩))
     go_ret
     exact OkE.bad _ (by decide) E6.out
    have wW:fO p.x=true:=by simpa using m1
    by_cases m2:fO p.y=false
    ·go_wp2_with (first|(go_at_call 116;refine(dD _ _).mono ?_;rintro e w' ⟨rfl,rfl⟩))
     go_ret
     exact OkE.bad _ (by decide) E6.out
    have EK:fO p.y=true:=by simpa using m2
    have dm:=hd0 (hup.out.snoc hp.out ⟨mg wW,mg EK⟩);go_wp2_with (first|(go_at_call 116;refine(dD _ _).mono ?_;rintro e w' ⟨rfl,rfl⟩))
    go_roundw
    case rel=>exact⟨q+1,by omega,by simp,dm,gY.out⟩
    case measure=>simp[intOf];omega
   obtain rfl:q=x.points.length:=by omega
   have Ti:=hd0 (fun p (hp:p∈x.points)=>hup.out.all p hp);have HE:=hd0 (XP w6 B3 B4 d3 d4 x.points x.ends (H4.out.lw ahT.ok hb6) hB.pts hB.ends);clear hb6 hup;go_wp2_with fail
   refine HE.out.mono ?_;rintro e w7 ⟨be,rfl,hbe,hb7⟩;have nJ:Hid (Below Wg.heap.size Wg w7):=hd0 (gY.out.trans (hb7.mono gY.out.size));have E7:Hid (Below w.heap.size w w7):=hd0 (dh.out.trans (nJ.out.mono hzg));cases be
   ·clear hbe hb7 HE;go_wp2_with fail
    go_ret
    exact OkE.bad _ (by decide) E7.out
   have HEN:=hd0 (hbe rfl);clear hbe hb7 HE y3 y4;have jG:Hid (Below Wg.heap.size Wg w7.drew):=hd0 nJ.out.drew;have S7:=And.intro (nine aH.out jG.out) (nine ak.out jG.out);go_wp2_with fail
   go_region_held3 (fun w'=>(w'.cell? ⟨w.heap.size,0,none⟩=some (.int .i64 f.unit)/\w'.cell? ⟨w.heap.size,1,none⟩=some (.slice (some ⟨b,o,none⟩) f.ahO.length c1)/\w'.cell? ⟨w.heap.size,2,none⟩=some (.slice A2 f.chars.length c2)/\w'.cell? ⟨w.heap.size,3,none⟩=some (.slice A3 f.ahP.length c3)/\w'.cell? ⟨w.heap.size,4,none⟩=some (.slice A4 f.features.length c4)/\w'.cell? ⟨w.heap.size,5,none⟩=some (.slice A5 f.ahQ.length c5)/\w'.cell? ⟨w.heap.size,6,none⟩=some (.slice A6 f.regions.length c6)/\w'.cell? ⟨w.heap.size,7,none⟩=some (.slice A7 f.funcs.length c7)/\w'.cell? ⟨w.heap.size,8,none⟩=some (.slice A8 f.cvt.length c8))/\(w'.cell? ⟨Wf.heap.size,0,none⟩=some (.string ⟨x.name.toArray⟩)/\w'.cell? ⟨Wf.heap.size,1,none⟩=some (.int .i64 x.advance)/\w'.cell? ⟨Wf.heap.size,2,none⟩=some (.bool x.mark)/\w'.cell? ⟨Wf.heap.size,3,none⟩=some (.slice B3 x.points.length d3)/\w'.cell? ⟨Wf.heap.size,4,none⟩=some (.slice B4 x.ends.length d4)/\w'.cell? ⟨Wf.heap.size,5,none⟩=some (.slice B5 x.parts.length d5)/\w'.cell? ⟨Wf.heap.size,6,none⟩=some (.slice B6 x.anchors.length d6)/\w'.cell? ⟨Wf.heap.size,7,none⟩=some (.slice B7 x.deltas.length d7)/\w'.cell? ⟨Wf.heap.size,8,none⟩=some (.slice B8 x.hint.length d8)))
    (first
     |with_reducible exact S7
     |with_reducible exact S8
     |with_reducible exact S9
     |with_reducible exact S10
     |with_reducible exact Ij
     |exact⟨nine aH.out (qG.out.alloc z11 _),nine ak.out (qG.out.alloc z11 _)⟩
     |with_reducible exact Iu)
    (first
     |(go_at_call 154;refine(Ug w7.drew f (some ⟨b,o,none⟩) A2 A3 A4 A5 A6 A7 A8 c1 c2 c3 c4 c5 c6 c7 c8 x B3 B4 B5 B6 B7 B8 d3 d4 d5 d6 d7 d8 (H5.out.lw ah6.ok jG.out) hB.parts hbn).mono ?_;rintro e w8 ⟨r8,rfl,Df,hb8⟩;have lD:Hid (Below Wg.heap.size Wg w8):=hd0 (jG.out.trans (hb8.mono jG.out.size));have S8:=And.intro (nine aH.out lD.out) (nine ak.out lD.out);have z8:=lD.out.size;clear hb8)
     |(go_at_call 155;refine(Nw w8 x B3 B4 B5 B6 B7 B8 d3 d4 d5 d6 d7 d8 (H6.out.lw ahY.ok lD.out) hB.anch).mono ?_;rintro e w9 ⟨r9,rfl,Du,aY⟩;have nO:Hid (Below Wg.heap.size Wg w9):=hd0 (lD.out.trans (aY.mono lD.out.size));have S9:=And.intro (nine aH.out nO.out) (nine ak.out nO.out);have z9:=nO.out.size;clear aY)
     |(go_at_call 156;refine(QJ w9 f (some ⟨b,o,none⟩) A2 A3 A4 A5 A6 A7 A8 c1 c2 c3 c4 c5 c6 c7 c8 x B3 B4 B5 B6 B7 B8 d3 d4 d5 d6 d7 d8 (H7.out.lw ah3.ok nO.out) hB.aid hbr hB.pts).mono ?_;rintro e w10 ⟨r10,rfl,abt,lL⟩;have vY:Hid (Below Wg.heap.size Wg w10):=hd0 (nO.out.trans (lL.mono nO.out.size));have S10:=And.intro (nine aH.out vY.out) (nine ak.out vY.out);have z10:=vY.out.size;clear lL)
     |(go_at_call 118;refine(O7 w10 B8 d8 x.hint (H8.out.lw ah5.ok vY.out) hB.hint).mono ?_;rintro e fK ⟨r11,rfl,GZ,gy⟩;have qG:Hid (Below Wg.heap.size Wg fK):=hd0 (vY.out.trans (gy.mono vY.out.size));have Ij:=And.intro (nine aH.out qG.out) (nine ak.out qG.out);have z11:=qG.out.size;clear gy)
     |(go_at_call 153;refine(VR _ fK.heap.size [r8,r9,r10,r11] (Bk.new _ _ _) rfl).mono ?_;rintro e w12 ⟨r12,rfl,Z9,Lm⟩;have nN:Hid (Below Wg.heap.size Wg w12):=hd0 ((qG.out.alloc z11 _).trans (Lm.mono (qG.out.alloc z11 _).size));have Iu:=And.intro (nine aH.out nN.out) (nine ak.out nN.out);clear Lm))
   have YJ:Hid (Below w.heap.size w w12):=hd0 (dh.out.trans (nN.out.mono hzg));have HR:Hid (r12=0->P):=hd0 fun h0=>by
    have h1:=Z9 h0;refine HP.out.mpr ⟨⟨HN.out,by unfold N9;omega,⟨by omega,fun p hp=>Ti.out p hp⟩,⟨by omega,HEN.out⟩,Df (h1 _ (by simp)),Du (h1 _ (by simp)),abt (h1 _ (by simp)),GZ (h1 _ (by simp))⟩,fun j y hj hy=>hne.out j y hj hy⟩
   clear Df Du abt GZ Z9;go_wp2_with fail
   go_ret
   exact⟨r12,rfl,HR.out,YJ.out⟩
attribute [-go_sem] Builtin.append_
theorem PSt.look {w:World}{Bd p gm cm:Nat}{gl:Gl}{s:PS}{rv:Rows}{K:Nat}(h:PSt w Bd p gm cm gl s rv K)(t:B):(Instr.lookup 112 (.map (some gm)) (.string ⟨t.toArray⟩) false).run Tryz.prog w= .ok (.int .i64 (fF gl t)) w:=by
 have:=h.gmp.look1 Tryz.underlying112 Tryz.underlying9 (GL _) t;have e:((gl.lookup t).map fun n=>Value.int .i64 (n:Nat)).getD (.int .i64 0)= .int .i64 (fF gl t):=by unfold fF;cases gl.lookup t<;>rfl
 rw[e] at this;exact this
theorem Ur (gl:Gl)(s:PS)(l:List B)(h:l.length≠2)(h3:∀a b,l≠[a,b,iH]):gq gl s l= .error 22:=by
 unfold gq;split
 ·rename_i n a r;rw[if_neg];rintro(e|e)
  ·subst e;exact h rfl
  subst e;exact h3 _ _ rfl
 rfl
theorem Ey (gl:Gl)(s:PS)(t1 t2:B)(r:List B)(hr:r=[]\/r=[iH]):gq gl s (t1::t2::r)=if aG (bg 0 t1) t2≠0 then .error (aG (bg 0 t1) t2) else if fF gl t1≠s.f.ahO.length then .error 24
   else .ok {s with f:= {s.f with ahO:=s.f.ahO++[⟨t1,aA t2,!r.isEmpty,[],[],[],[],[],[]⟩]}} :=by
 show(if r=[]\/r=[iH] then _ else _)=_;rw[if_pos hr]
theorem PX (w:World)(Bd p gm cm:Nat)(gl:Gl)(s:PS)(rv:Rows)(K:Nat)(A:Option Addr)(n c:Nat)(ws:List P3)(t t1 t2:B)(hP:PSt w Bd p gm cm gl s rv K)(hL:aif w A n ws)(hT:af ws=t::[t1,t2])(hK:K<=10000000000):
  Calls Tryz.prog 79 #[.pointer (some ⟨p,0,none⟩),.slice A n c] w (ahS w Bd p gm cm gl (K+n) (gq gl s [t1,t2])):=by
 have hn:n=3:=by rw[<-hL.length];exact dE hT
 have hB:=hP.size;obtain⟨b,o,rfl,hb,q1,hz1⟩:=hL.word (k:=1) (t:=t1) (by rw[hT];rfl) (d:=3) rfl;obtain⟨b',o',e',-,q2,hz2⟩:=hL.word (k:=2) (t:=t2) (by rw[hT];rfl) (d:=6) rfl;obtain⟨rfl,rfl⟩:b=b'/\o=o':=by simpa using e'
 clear e';subst hn;have HP:=hd0 hP;have hpb:p<w.heap.size:=hP.par.lt;obtain⟨A0,c0,hv⟩:=hP.slice (i:=0) (by decide);have kp:w.cell? ⟨p,1,none⟩=some (rv 0).v:=hP.par.cell 1;rw[hv] at kp;have kg:w.cell? ⟨p,10,none⟩=some (.map (some gm)):=hP.par.cell 10;have hfew:=hP.few 0 (by decide);have hlen:=hP.fnt.gly.1;have HLn:=hd0 hlen;have uS:=hd0 (fun w rb er h=>wP w rb p er t1 h);have uD:=hd0 (fun w rb er h=>dK w rb p er t2 h hz2);have HI2:=hd0 (dG t2);have HR:=hd0 (Ey gl s t1 t2 [] (by simp));have KZ:=hd0 (fun w rv K (h:PSt w Bd p gm cm gl s rv K)=>h.look t1);generalize aA t2=v2 at*
 generalize fF gl t1=vg at*
 clear hP hL hT hz1 hz2 hlen;go_enter Tryz.func79,Tryz.ntmps79
 go_wp2_with fail
 refine(fZ w p).mono ?_;rintro e w1 ⟨rfl,hr1,hb1⟩;obtain⟨hc1,hf1⟩:=aj hb1;have KL:w1.cell? ⟨b,o+3+2,none⟩=some (.string ⟨t1.toArray⟩):=(hc1 _ _ hb).trans q1;have hl1:=hr1.lt;have hs1:=hb1.size;have hbl:b<w1.heap.size:=by omega
 have hbc:b≠w1.heap.size:=by omega
 have hpc:p≠w1.heap.size:=by omega
 have jV:=hd0 (hr1.alloc (.cells #[.string ⟨#[]⟩,.int .i64 0,.bool false,.slice none 0 0,.slice none 0 0,.slice none 0 0,.slice none 0 0,.slice none 0 0,.slice none 0 0] 59));have Hb1:=hd0 (hb1.alloc hs1 (.cells #[.string ⟨#[]⟩,.int .i64 0,.bool false,.slice none 0 0,.slice none 0 0,.slice none 0 0,.slice none 0 0,.slice none 0 0,.slice none 0 0] 59));have oL:Hid (Bk (w1.alloc (.cells #[.string ⟨#[]⟩,.int .i64 0,.bool false,.slice none 0 0,.slice none 0 0,.slice none 0 0,.slice none 0 0,.slice none 0 0,.slice none 0 0] 59)) w1.heap.size 59 #[.string ⟨#[]⟩,.int .i64 0,.bool false,.slice none 0 0,.slice none 0 0,.slice none 0 0,.slice none 0 0,.slice none 0 0,.slice none 0 0]):=Bk.new _ _ _;clear hr1 hb1 hc1 hf1;go_wp2_with fail
 refine(uS.out _ _ _ (by exact jV.out)).mono ?_;rintro e w2 ⟨rfl,hr2,hg2⟩;have hb2:=aU Hb1.out hg2 (nr _);obtain⟨hc2,hf2⟩:=aj hb2;have hk2:Bk w2 w1.heap.size 59 #[.string ⟨#[]⟩,.int .i64 0,.bool false,.slice none 0 0,.slice none 0 0,.slice none 0 0,.slice none 0 0,.slice none 0 0,.slice none 0 0]:=Bk.kept2 hg2 oL.out (by omega);have Ae:w2.cell? ⟨w1.heap.size,0,none⟩=some (.string ⟨#[]⟩):=hk2.cell 0;have y2:=hk2.frozen 0;have hs2:=hk2.lt;have QB:w2.cell? ⟨b,o+6+2,none⟩=some (.string ⟨t2.toArray⟩):=(hc2 _ _ hb).trans q2;have lm:Hid (Rdr (w2.setCell ⟨w1.heap.size,0,none⟩ (.string ⟨t1.toArray⟩)) w.heap.size p (bg 0 t1)):=Bk.far hr2 (by simp;omega) _;have Hb2:=hd0 (hb2.setCell (p:=⟨w1.heap.size,0,none⟩) (by simp;omega) (.string ⟨t1.toArray⟩));have mi:Hid (Bk (w2.setCell ⟨w1.heap.size,0,none⟩ (.string ⟨t1.toArray⟩)) w1.heap.size 59 #[.string ⟨t1.toArray⟩,.int .i64 0,.bool false,.slice none 0 0,.slice none 0 0,.slice none 0 0,.slice none 0 0,.slice none 0 0,.slice none 0 0]):=hk2.set 0 _;clear hr2 hg2 hb2 hk2 hc2 hf2;go_wp2_with fail
 refine(uD.out _ _ _ (by exact lm.out)).mono ?_;rintro e w3 ⟨rfl,hr3,hg3⟩;have hb3:=aU Hb2.out hg3 (nr _);have hk3:Bk w3 w1.heap.size 59 #[.string ⟨t1.toArray⟩,.int .i64 0,.bool false,.slice none 0 0,.slice none 0 0,.slice none 0 0,.slice none 0 0,.slice none 0 0,.slice none 0 0]:=Bk.kept2 hg3 mi.out (by omega);have DD:w3.cell? ⟨w1.heap.size,1,none⟩=some (.int .i64 0):=hk3.cell 1;have y3:=hk3.frozen 1;have VG:w3.cell? ⟨w.heap.size,1,none⟩=some (.int .i64 (aG (bg 0 t1) t2)):=hr3.cell 1;have lG:Hid (Rdr (w3.setCell ⟨w1.heap.size,1,none⟩ (.int .i64 v2)) w.heap.size p (aG (bg 0 t1) t2)):=Bk.far hr3 (by simp;omega) _;have Hb3:=hd0 (hb3.setCell (p:=⟨w1.heap.size,1,none⟩) (by simp;omega) (.int .i64 v2));have nD:Hid (Bk (w3.setCell ⟨w1.heap.size,1,none⟩ (.int .i64 v2)) w1.heap.size 59 #[.string ⟨t1.toArray⟩,.int .i64 v2,.bool false,.slice none 0 0,.slice none 0 0,.slice none 0 0,.slice none 0 0,.slice none 0 0,.slice none 0 0]):=hk3.set 1 _;have hrc:w.heap.size≠w1.heap.size:=by omega
 clear hr3 hg3 hb3 hk3;generalize aG (bg 0 t1) t2=er at*
 by_cases he:er=0
 ·subst he;obtain⟨W1,hW1⟩:∃W1,w3.setCell ⟨w1.heap.size,1,none⟩ (.int .i64 v2)=W1:=⟨_,rfl⟩
  have Hr:=lG;have Hb:=Hb3;have eU:=nD;rw[hW1] at Hr Hb eU;have aB:=HP.out.below Hb.out;have hlk:=KZ.out _ _ _ aB;have Wh:(Instr.lookup 112 (.map (some gm)) (.string ⟨t1.toArray⟩) false).run Tryz.prog W1.drew= .ok (.int .i64 vg) W1.drew:=KZ.out W1.drew rv K (aB.drewN 1);have vC:W1.cell? ⟨p,1,none⟩=some (.slice A0 (rv 0).n c0):=((aj Hb.out).1 _ _ hpb).trans kp;have a_g:W1.cell? ⟨p,10,none⟩=some (.map (some gm)):=((aj Hb.out).1 _ _ hpb).trans kg;have tN:W1.cell? ⟨w1.heap.size,0,none⟩=some (.string ⟨t1.toArray⟩):=eU.out.cell 0;have a_e:W1.cell? ⟨w.heap.size,1,none⟩=some (.int .i64 0):=Hr.out.cell 1;have vK:W1.cell? ⟨w1.heap.size,1,none⟩=some (.int .i64 v2):=eU.out.cell 1;have yV:W1.cell? ⟨w1.heap.size,2,none⟩=some (.bool false):=eU.out.cell 2;have Bc:W1.cell? ⟨w1.heap.size,3,none⟩=some (.slice none 0 0):=eU.out.cell 3;have Et:W1.cell? ⟨w1.heap.size,4,none⟩=some (.slice none 0 0):=eU.out.cell 4;have EI:W1.cell? ⟨w1.heap.size,5,none⟩=some (.slice none 0 0):=eU.out.cell 5;have Va:W1.cell? ⟨w1.heap.size,6,none⟩=some (.slice none 0 0):=eU.out.cell 6;have Ve:W1.cell? ⟨w1.heap.size,7,none⟩=some (.slice none 0 0):=eU.out.cell 7;have UW:W1.cell? ⟨w1.heap.size,8,none⟩=some (.slice none 0 0):=eU.out.cell 8;have zp:p<W1.heap.size:=aB.par.lt;have zc:w1.heap.size<W1.heap.size:=eU.out.lt;have zr:w.heap.size<W1.heap.size:=Hr.out.lt;by_cases hvg:vg=((rv 0).n:Int)
  ·have HR2:Hid (gq gl s [t1,t2]= .ok {s with f:= {s.f with ahO:=s.f.ahO++[⟨t1,v2,false,[],[],[],[],[],[]⟩]}}):=by
    show _=_;rw[HR.out,if_neg (by simp),if_neg (by rw[hvg,HLn.out];simp)];rfl
   subst hvg;go_wp2_with fail
   try rw[hW1]
   go_region
   all_goals
    obtain⟨W2,hW2⟩:∃W2,W1.drew=W2:=⟨_,rfl⟩
    try rw[hW2]
    have b_p:W2.cell? ⟨p,1,none⟩=some (.slice A0 (rv 0).n c0):=by rw[<-hW2];exact vC
    have b_0:W2.cell? ⟨w1.heap.size,0,none⟩=some (.string ⟨t1.toArray⟩):=by rw[<-hW2];exact tN
    have b_1:W2.cell? ⟨w1.heap.size,1,none⟩=some (.int .i64 v2):=by rw[<-hW2];exact vK
    have b_2:W2.cell? ⟨w1.heap.size,2,none⟩=some (.bool false):=by rw[<-hW2];exact yV
    have b_3:W2.cell? ⟨w1.heap.size,3,none⟩=some (.slice none 0 0):=by rw[<-hW2];exact Bc
    have b_4:W2.cell? ⟨w1.heap.size,4,none⟩=some (.slice none 0 0):=by rw[<-hW2];exact Et
    have b_5:W2.cell? ⟨w1.heap.size,5,none⟩=some (.slice none 0 0):=by rw[<-hW2];exact EI
    have b_6:W2.cell? ⟨w1.heap.size,6,none⟩=some (.slice none 0 0):=by rw[<-hW2];exact Va
    have b_7:W2.cell? ⟨w1.heap.size,7,none⟩=some (.slice none 0 0):=by rw[<-hW2];exact Ve
    have b_8:W2.cell? ⟨w1.heap.size,8,none⟩=some (.slice none 0 0):=by rw[<-hW2];exact UW
    have x_p:p<W2.heap.size:=by rw[<-hW2];exact zp
    have x_c:w1.heap.size<W2.heap.size:=by rw[<-hW2];exact zc
    have HP2:PSt W2 Bd p gm cm gl s rv K:=by rw[<-hW2];exact aB.drewN 1
    have HB2:Below w.heap.size w W2:=by rw[<-hW2];exact Hb.out.drew
    have hown:=HP2.live.own 0 (by decide);rw[hv] at hown;obtain⟨A5,c5,w9,hrun,di,aN,bz⟩:=iE Oo 24 W2 Bd _ c0 A0 _ #[.string ⟨t1.toArray⟩,.int .i64 v2,.bool false,.slice none 0 0,.slice none 0 0,.slice none 0 0,.slice none 0 0,.slice none 0 0,.slice none 0 0] rfl hown (by simp[Value.oneCell']) (by omega) HP2.size;rw[<-hv] at aN bz;have bI:Bk w9 p jq (dV s rv gm cm):=(HP2.row (i:=0) (by decide) (r:=⟨.slice A5 ((rv 0).n+1) c5,_,_⟩) aN di bz).1;have x9:w9.cell? ⟨p,1,none⟩=some (rv 0).v:=bI.cell 1;have y9:=bI.frozen 1;have bG:=hd0 (HP2.ajm (nm:=t1) (adv:=v2) (mk:=false) aN di bz HI2.out (K':=K+3) (by omega));have iy:=hd0 ((HB2.mono hB).trans (HP2.aiA (i:=0) (by decide) aN 1 (.slice A5 ((rv 0).n+1) c5) HP2.size));have HQ:=hd0 (KQ.below (cm:=cm) HB2);clear KZ hlk Wh jV lm lG Hb1 Hb2 Hb3 oL mi nD uS uD hW1 hW2 Ae DD VG y2 y3 hown di aN bz bI HP2 HB2 aB Hr Hb eU vC a_g tN vK yV Bc Et EI Va Ve UW a_e;go_wp2_with fail
    go_region
    all_goals
     go_wp2;go_ret
     obtain⟨rv',g1,g2⟩:=bG.out;exact ahS.good HR2.out iy.out (HQ.out.trans g2) g1
  have HR2:Hid (gq gl s [t1,t2]= .error 24):=by show _=_;rw[HR.out,if_neg (by simp),if_pos (by rw[<-HLn.out];exact hvg)]
  have e3:(vg !=((rv 0).n:Int))=true:=by simpa using hvg
  clear hvg;go_wp2_with fail
  try rw[hW1]
  go_region
  all_goals
   go_wp2;go_ret
   exact ahS.bad HR2.out (Hb.out.drew.mono hB)
 have HR2:Hid (gq gl s [t1,t2]= .error er):=by show _=_;rw[HR.out,if_pos he]
 have e1:(er==0)=false:=by simpa using he
 have e2:(er !=0)=true:=by simpa using he
 clear he;go_wp2;go_ret
 exact ahS.bad HR2.out (Hb3.out.mono hB)
end
section
structure ajq (r:aii):Prop where
 back:Big r.back.length
 in':Big r.in'.length
 ahead:Big r.ahead.length
 out:Big r.out.length
 calls:Big r.calls.length
theorem eH {x y:Int}(h:¬x=y):(x==y)=false:=by simpa using h
theorem gI {x y:Int}(h:¬x=y):(x !=y)=true:=by simpa using h
theorem U8 (w:World)(kd:Int)(r:aii)(C0 C1 C2 C3 C4:Option Addr)(e0 e1 e2 e3 e4:Nat)(hB:ajq r):Calls Tryz.prog 157 #[.int .i64 kd,.agg #[.slice C0 r.back.length e0,.slice C1 r.in'.length e1,.slice C2 r.ahead.length e2,.slice C3 r.out.length e3,.slice C4 r.calls.length e4,.int .i64 r.x]] w (OkE w ((r.back.length<=6/\r.in'.length<=6/\r.ahead.length<=6)/\r.in'≠[]/\(kd=1\/kd=5->r.in'.length=1))):=by
 obtain⟨P,HP⟩:∃P:Prop,Hid (P=((r.back.length<=6/\r.in'.length<=6/\r.ahead.length<=6)/\r.in'≠[]/\(kd=1\/kd=5->r.in'.length=1))):=⟨_,rfl⟩
 rw[<-HP.out];obtain⟨b0,b1,b2,b3,b4⟩:=hB;unfold Big at b0 b1 b2 b3 b4;obtain⟨Wr,OG,hbr,hkr⟩:=aQ w 76 #[.slice C0 r.back.length e0,.slice C1 r.in'.length e1,.slice C2 r.ahead.length e2,.slice C3 r.out.length e3,.slice C4 r.calls.length e4,.int .i64 r.x];have l7:Hid (Below w.heap.size w Wr):=hd0 hbr;have sK:=hd0 hkr;have k0:=hkr.cell 0;have k1:=hkr.cell 1;have k2:=hkr.cell 2;clear hbr hkr;go_enter Tryz.func157,Tryz.ntmps157
 by_cases h1:6<r.back.length
 ·have bh1:decide ((6:Int)<r.back.length)=true:=decide_eq_true (by omega);go_wp2_with fail
  all_goals
   go_ret
   exact OkE.bad _ (by decide) l7.out
 have bh1:decide ((6:Int)<r.back.length)=false:=decide_eq_false (by omega);by_cases h2:6<r.in'.length
 ·have mf:decide ((6:Int)<r.in'.length)=true:=decide_eq_true (by omega);go_wp2_with fail
  all_goals
   go_ret
   exact OkE.bad _ (by decide) l7.out
 have mf:decide ((6:Int)<r.in'.length)=false:=decide_eq_false (by omega);by_cases h3:6<r.ahead.length
 ·have kM:decide ((6:Int)<r.ahead.length)=true:=decide_eq_true (by omega);go_wp2_with fail
  all_goals
   go_ret
   exact OkE.bad _ (by decide) l7.out
 have kM:decide ((6:Int)<r.ahead.length)=false:=decide_eq_false (by omega);have e1:(kd==1)=false\/kd=1:=by by_cases h:kd=1;exact .inr h;exact .inl (eH h)
 have e2:(kd==2)=false\/kd=2:=by by_cases h:kd=2;exact .inr h;exact .inl (eH h)
 have e5:(kd==5)=false\/kd=5:=by by_cases h:kd=5;exact .inr h;exact .inl (eH h)
 have e6:(kd==6)=false\/kd=6:=by by_cases h:kd=6;exact .inr h;exact .inl (eH h)
 rcases e1 with e1|hk1
 ·rcases e2 with e2|hk2
  ·rcases e5 with e5|hk5
   ·by_cases hin:0<r.in'.length
    ·have q1:((r.in'.length:Int)==0)=false:=eH (by omega);have hg:P:=HP.out.mpr ⟨⟨by omega,by omega,by omega⟩,(by intro h0;rw[h0] at hin;simp at hin),fun h=>by rcases h with rfl|rfl;exact absurd e1 (by decide);exact absurd e5 (by decide)⟩;rcases e6 with e6|hk6
     ·go_wp2_with fail
      go_ret
      exact OkE.good hg l7.out
     subst hk6;go_wp2_with fail
     all_goals
      go_ret
      first
       |exact OkE.good hg l7.out
       |exact OkE.bad _ (by decide) l7.out
    have q1:((r.in'.length:Int)==0)=true:=by rw[show r.in'.length=0 by omega];rfl
    go_wp2_with fail
    go_ret
    exact OkE.bad _ (by decide) l7.out
   clear e1 e2 e6;subst hk5;by_cases hin1:r.in'.length=1
   ·have hin:0<r.in'.length:=by omega
    have hg:P:=HP.out.mpr ⟨⟨by omega,by omega,by omega⟩,(by intro h0;rw[h0] at hin;simp at hin),(by omega)⟩;have q1:((r.in'.length:Int)==0)=false:=eH (by omega);have q2:((r.in'.length:Int) !=1)=false:=by rw[hin1];rfl
    clear hin1;go_wp2_with fail
    go_ret
    exact OkE.good hg l7.out
   have q2:((r.in'.length:Int) !=1)=true:=gI (by omega);go_wp2_with fail
   all_goals
    go_ret
    exact OkE.bad _ (by decide) l7.out
  clear e1 e5 e6;subst hk2;by_cases hin1:r.in'.length=1
  ·have hin:0<r.in'.length:=by omega
   have hg:P:=HP.out.mpr ⟨⟨by omega,by omega,by omega⟩,(by intro h0;rw[h0] at hin;simp at hin),(by omega)⟩;have q1:((r.in'.length:Int)==0)=false:=eH (by omega);have q2:((r.in'.length:Int) !=1)=false:=by rw[hin1];rfl
   clear hin1;go_wp2_with fail
   go_ret
   exact OkE.good hg l7.out
  have q2:((r.in'.length:Int) !=1)=true:=gI (by omega);go_wp2_with fail
  all_goals
   go_ret
   exact OkE.bad _ (by decide) l7.out
 clear e2 e5 e6;subst hk1;by_cases hin1:r.in'.length=1
 ·have hin:0<r.in'.length:=by omega
  have hg:P:=HP.out.mpr ⟨⟨by omega,by omega,by omega⟩,(by intro h0;rw[h0] at hin;simp at hin),(by omega)⟩;have q1:((r.in'.length:Int)==0)=false:=eH (by omega);have q2:((r.in'.length:Int) !=1)=false:=by rw[hin1];rfl
  clear hin1;go_wp2_with fail
  go_ret
  exact OkE.good hg l7.out
 have q2:((r.in'.length:Int) !=1)=true:=gI (by omega);go_wp2_with fail
 all_goals
  go_ret
  exact OkE.bad _ (by decide) l7.out
end
end Go.Proofs.YtkijckccfookeaaGreatDoor
