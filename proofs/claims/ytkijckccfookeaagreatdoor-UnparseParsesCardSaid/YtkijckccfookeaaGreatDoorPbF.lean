/- parse: a rule, the walk. -/
import Derived.Test.YtkijckccfookeaaGreatDoorU36
set_option linter.unusedVariables false
set_option linter.unusedSimpArgs false
set_option maxRecDepth 100000
set_option maxHeartbeats 32000000
namespace Go.Proofs.YtkijckccfookeaaGreatDoor
open Go.RowKit
attribute [-go_sem] Builtin.append_
structure Three (w1 wr:World)(r3:List P3)(A3:Option Addr)(k3 c3:Nat)(S0 S1 S2:List (List P3))(B0 B1 B2:Option Addr)(d0 d1 d2:Nat)(h0 h1 h2:List Value):Prop where
 parts:∃a b c,Bk wr w1.heap.size iR #[a,b,c,.slice A3 k3 c3]
 wrt:Bk wr (w1.heap.size+1) tWr #[.slice B0 S0.length d0,.slice B1 S1.length d1,.slice B2 S2.length d2]
 rd:RdT wr dZ A3 k3 3 (dD r3)
 q0:RdT wr EI B0 S0.length 1 h0
 q1:RdT wr EI B1 S1.length 1 h1
 q2:RdT wr EI B2 S2.length 1 h2
 i0:RowsIn dZ wr h0 S0
 i1:RowsIn dZ wr h1 S1
 i2:RowsIn dZ wr h2 S2
theorem alX.three {w1 wr:World}{r0 r1 r2 r3:List P3}{A0 A1 A2 A3:Option Addr}{k0 k1 k2 k3 c0 c1 c2 c3:Nat}(h:alX w1 [r0,r1,r2,r3] [.slice A0 k0 c0,.slice A1 k1 c1,.slice A2 k2 c2,.slice A3 k3 c3] 3 wr):
  Below w1.heap.size w1 wr/\∃S0 S1 S2,jb r0=some S0/\jb r1=some S1/\jb r2=some S2/\∃B0 B1 B2 d0 d1 d2 h0 h1 h2,Three w1 wr r3 A3 k3 c3 S0 S1 S2 B0 B1 B2 d0 d1 d2 h0 h1 h2:=by
 obtain⟨hs,l3,b1,b2,hin,hb,hj⟩:=h;obtain⟨S0,B0,d0,g0,e0,f0,m0,n0⟩:=hj 0 r0 (by omega) rfl;obtain⟨S1,B1,d1,g1,e1,f1,m1,n1⟩:=hj 1 r1 (by omega) rfl;obtain⟨S2,B2,d2,g2,e2,f2,m2,n2⟩:=hj 2 r2 (by omega) rfl;refine⟨hb,S0,S1,S2,e0,e1,e2,B0,B1,B2,d0,d1,d2,g0,g1,g2,⟨_,_,_,b1⟩,?_,?_,m0,m1,m2,n0,n1,n2⟩
 ·match hs,l3,b2,f0,f1,f2 with
  |[a,b,c],_,b2,f0,f1,f2=>cases f0;cases f1;cases f2;exact b2
 obtain⟨Ar,kr,cr,hv,hr,-⟩:=hin.2 3 r3 rfl;cases hv;exact hr
theorem Three.below {w1 wr w2:World}{r3:List P3}{A3:Option Addr}{k3 c3:Nat}{S0 S1 S2:List (List P3)}{B0 B1 B2:Option Addr}{d0 d1 d2:Nat}{h0 h1 h2:List Value}(h:Three w1 wr r3 A3 k3 c3 S0 S1 S2 B0 B1 B2 d0 d1 d2 h0 h1 h2)(hb:Below wr.heap.size wr w2):Three w1 w2 r3 A3 k3 c3 S0 S1 S2 B0 B1 B2 d0 d1 d2 h0 h1 h2:=by obtain⟨a,b,c,hp⟩:=h.parts;exact⟨⟨a,b,c,hp.keep (hb.block _ hp.lt)⟩,h.wrt.keep (hb.block _ h.wrt.lt),h.rd.below hb,h.q0.below hb,h.q1.below hb,h.q2.below hb,h.i0.below hb,h.i1.below hb,h.i2.below hb⟩
theorem Three.reader {w1 wr w2:World}{r3:List P3}{A3:Option Addr}{k3 c3:Nat}{S0 S1 S2:List (List P3)}{B0 B1 B2:Option Addr}{d0 d1 d2:Nat}{h0 h1 h2:List Value}{rb p:Nat}{er:Int}(h:Three w1 wr r3 A3 k3 c3 S0 S1 S2 B0 B1 B2 d0 d1 d2 h0 h1 h2)(hr:Rdr wr rb p er)(hg:wr.grownBy w2 (some rb)):Three w1 w2 r3 A3 k3 c3 S0 S1 S2 B0 B1 B2 d0 d1 d2 h0 h1 h2:=by
 obtain⟨a,b,c,hp⟩:=h.parts;have hx:∀(t:TypeId),t≠MM->∀g,some rb=some g->∃cur t',Bk wr g t' cur/\t≠t':=fun t ht g e=>by
  cases e;exact⟨_,_,hr,ht⟩
 have hb:∀(g:Nat) (t:TypeId) (cs:Array Value),Bk wr g t cs->t≠MM->Bk w2 g t cs:=fun g t cs hk ht=>Bk.kept2 hg hk (fun e=>by subst e;exact ht (bU hk hr).1)
 exact⟨⟨a,b,c,hb _ _ _ hp (by decide)⟩,hb _ _ _ h.wrt (by decide),h.rd.grown hg (hx _ (by decide)),h.q0.grown hg (hx _ (by decide)),h.q1.grown hg (hx _ (by decide)),h.q2.grown hg (hx _ (by decide)),h.i0.kept fun _ _ _ k=>k.grown hg (hx _ (by decide)),h.i1.kept fun _ _ _ k=>k.grown hg (hx _ (by decide)),h.i2.kept fun _ _ _ k=>k.grown hg (hx _ (by decide))⟩
def sG (kd:Int):Bool:=kd==1||kd==5
theorem Yh (gl:Gl)(s:PS){l:List B}{init:List Lookup}{lk:Lookup}(hs:s.f.akK=init++[lk]){p0 p1 p2 p3:List B}(h:pM l=some [p0,p1,p2,p3]){T0 T1 T2:List (List B)}(h0:eP p0=some T0)(h1:eP p1=some T1)(h2:eP p2=some T2)(hbad:(sG lk.kind && T1.length !=1|| !eu lk.kind p3)=true):fF gl s l= .error 22:=by
 unfold fF;rw[hs,List.getLast?_append];simp only[List.getLast?_singleton,Option.some_or];rw[h];simp only;rw[h0,h1,h2];simp only;by_cases c1:(lk.kind=1\/lk.kind=5)/\T1.length≠1
 ·rw[if_pos c1]
 rw[if_neg c1,if_pos];cases ha:eu lk.kind p3 with
 |false=>rfl
 |true=>rw[ha] at hbad;exfalso;apply c1;simp only[Bool.not_true,Bool.or_false,anT,sG,Bool.or_eq_true,beq_iff_eq,bne_iff_ne] at hbad;exact hbad
theorem Xc (n:Nat)(cur:List P3)(told:List (List P3))(ws:List P3)(rows:List (List P3))(h:dS n cur told ws=some rows):∀r∈rows,r∈told\/∀x∈r,x∈cur\/x∈ws:=by
 induction ws generalizing n cur told with
 |nil=>
  rw[dS] at h;split at h
  ·cases h;intro r hr;rcases anz.1 hr with g|g
   ·exact .inl g
   simp only[anu] at g;subst g;exact .inr fun x hx=> .inl hx
  cases h
 |cons w r ih=>
  rw[dS] at h;split at h
  ·intro x hx;refine(ih n (cur++[w]) told h x hx).imp id fun g y hy=> ?_
   rcases g y hy with g|g
   ·rcases anz.1 g with g|g
    ·exact .inl g
    simp only[anu] at g;exact .inr (by simp[g])
   exact .inr (by simp[g])
  split at h
  ·intro x hx;rcases ih (n+1) [] (told++[cur]) h x hx with g|g
   ·rcases anz.1 g with g|g
    ·exact .inl g
    simp only[anu] at g;subst g;exact .inr fun y hy=> .inl hy
   refine .inr fun y hy=> ?_
   rcases g y hy with g|g
   ·simp at g
   exact .inr (by simp[g])
  cases h
theorem Uh {ws:List P3}{rows:List (List P3)}(h:kU ws=some rows):∀r∈rows,∀x∈r,x∈ws:=fun r hr x hx=>by
 rcases Xc 0 [] [] ws rows h r hr with g|g
 ·simp at g
 rcases g x hx with g|g
 ·simp at g
 exact g
theorem CY {w w':World}(hb:Below w.heap.size w w'){p:Addr}{v:Value}(h:w.cell? p=some v):w'.cell? p=some v:=(hb.cell (World.block_lt_of_cell? w p h)).trans h
theorem GN (gl:Gl)(hg:∀t n,gl.lookup t=some n->n<=1000000000)(kind:Int)(b i a:List (List Int))(p3:List B):(∀y∈(dw gl kind b i a p3).out,I64 y)/\(∀y∈(dw gl kind b i a p3).calls,I64 y.at'/\I64 y.lookup)/\I64 (dw gl kind b i a p3).x:=by
 unfold dw;simp only;refine⟨?_,?_,?_⟩
 ·split
  ·intro y hy;obtain⟨t,_,rfl⟩:=anZ.1 hy;exact DC hg t
  intro y hy;simp at hy
 ·split
  ·intro y hy;obtain⟨t,_,rfl⟩:=anZ.1 hy;exact⟨dH _,dH _⟩
  intro y hy;simp at hy
 split
 ·exact dH _
 exact⟨by omega,by omega⟩
theorem uX (S:List (List P3)):(aO S).length=S.length:=by simp[aO]
theorem alY.shape {w w':World}{r:Except Int (List Int)}{e:Ending}(h:alY w r e w'):∃A n c,∃code:Int,e= .returned (.tuple #[.slice A n c,.int .i64 code])/\alY w r (.returned (.tuple #[.slice A n c,.int .i64 code])) w':=by
 obtain⟨h1,h2⟩:=h;cases r with
 |error c=>exact⟨none,0,0,c,h2,h1,rfl⟩
 |ok o=>obtain⟨A,c,h3,h4⟩:=h2;exact⟨A,_,c,0,h3,h1,A,c,rfl,h4⟩
theorem U5 (gl:Gl)(kd:Int)(b i a:List (List Int))(p:List B):(dw gl kd b i a p).out.length<=p.length:=by unfold dw;simp only;split<;>simp
theorem Qg {l nm:List Int}{e:Int}(h:fE l nm= .error e):e=24\/e=22:=by
 unfold fE at h;split at h
 ·injection h with h;exact .inl h.symm
 split at h
 ·injection h with h;exact .inr h.symm
 cases h
theorem Qn {l nm o:List Int}(h:fE l nm= .ok o)(hn:∀x∈nm,I64 x):∀x∈o,I64 x:=by
 unfold fE at h;split at h
 ·cases h
 split at h
 ·cases h
 injection h with h
 subst h;intro x hx;rw[anZ] at hx;obtain⟨g,-,rfl⟩:=hx;rw[List.getD_eq_getElem?_getD];cases hg:nm[l.idxOf g]? with
 |none=>exact⟨by decide,by decide⟩
 |some v=>exact hn v (anC hg)
theorem Qz (w:World)(Bd p gm cm:Nat)(gl:Gl)(s:PS)(rv:Rows)(K:Nat)(A:Option Addr)(n c:Nat)(ws:List P3)(t:B)(l:List B)(hP:PSt w Bd p gm cm gl s rv K)(hL:alg w A n ws)(hT:ag ws=t::l)(hK:K<=10000000000)(hc:n<=c){init:List Lookup}{lk:Lookup}(hs:s.f.akK=init++[lk]){G n0 c9 q:Nat}(h0:(rv 2).v= .slice (some ⟨G,0,none⟩) n0 c9)(hq:q=init.length*3):
  Calls Tryz.prog 89 #[.pointer (some ⟨p,0,none⟩),.slice A n c,.pointer (some ⟨G,q,none⟩)] w (akO w Bd p gm cm gl (K+n) (fF gl s l)):=by
 have hn:n=l.length+1:=by rw[<-hL.length];exact dF hT
 have hB:=hP.size;have hnn:=hL.few;have ac2:=hL.length;obtain⟨A',hsub,hrd,hlen⟩:=hL.sub hc 1 1 rfl (by omega);have hrest:=jO hT;have HP:=hd0 hP;obtain⟨G',c9',ci,gv,-,-,hGb,ku,AX,uP⟩:=hP.al8 hs;obtain⟨rfl,hn0,rfl⟩:G'=G/\init.length+1=n0/\c9'=c9:=by rw[gv] at h0;simpa using h0
 have hpb:G'<w.heap.size:=hGb;have kq:w.cell? ⟨G',q,none⟩=some (.int .i64 lk.kind):=by have:=ku 0 (by decide);rw[Nat.add_zero,<-hq] at this;exact this
 have KQ0:=hd0 kq;have KQ2:Hid (w.cell? ⟨G',q+2,none⟩=some (rv 14).v):=by show _=_;rw[hq];exact ku 2 (by decide)
 have Hs:=hd0 hs;have Hq:=hd0 hq;have H0:=hd0 h0;have vk:=hd0 uP;have HL:=hd0 hlen;have Hg:=hd0 hrd;have hds:(ws.drop 1).length<=1000000000:=by rw[an9];omega
 have MP:=hd0 hds;have hcut:=hd0 (Tq w A' (n - 1) (c - 1) (ws.drop 1) hrd (by omega));have hn1:1<=n:=by omega
 have hpT:=Qk (ws.drop 1);rw[hrest] at hpT;have HPT:=hd0 hpT;have afE:=hd0 hrest;generalize ws.drop 1=ws1 at*
 clear hP hL hT hrd hlen hn hrest hs hq h0 gv ku AX uP hn0 hds hpT ac2;go_enter Tryz.func89,Tryz.ntmps89
 go_wp2_with fail
 refine hcut.out.mono ?_;rintro e w1 ⟨hb1,A0,k0,c0,A1,k1,c1,A2,k2,c2,A3,k3,c3,hpost⟩;cases hpl:kU ws1 with
 |none=>
  have HR:Hid (fF gl s l= .error 22):=Uw gl s Hs.out (by rw[HPT.out,hpl];rfl);rw[hpl] at hpost;have hpost:e=_:=hpost;subst hpost;have HB:=hd0 ((hb1.alloc hb1.size (.cells #[.slice A0 k0 c0,.slice A1 k1 c1,.slice A2 k2 c2,.slice A3 k3 c3] iR)).mono hB);clear hb1 hpl;go_wp2;go_ret
  exact akO.bad HR.out HB.out
 |some rows=>
  rw[hpl] at hpost;obtain⟨rfl,hin⟩:e=_/\RowsIn dZ w1 _ rows:=hpost;have HST:=hd0 (alX.start hin);obtain⟨hr4,hrl⟩:=Qu hpl;obtain⟨r0,r1,r2,r3,rfl⟩:∃a b c d,rows=[a,b,c,d]:=by
   match rows,hr4 with
   |[a,b,c,d],_=>exact⟨a,b,c,d,rfl⟩
  have HPL:Hid (pM l=some [ag r0,ag r1,ag r2,ag r3]):=by show _=_;rw[HPT.out,hpl];rfl
  have wQ:=hd0 hrl;have rf:Hid (∀x∈r3,x.2.2.length<=100000000):=fun x hx=>HL.out x (Uh hpl r3 (by simp) x hx)
  have Hb1:=hd0 hb1;have hs1:=hb1.size;clear hb1 hpl hin hr4 hrl hcut HPT;go_wp2_with fail
  go_loopw [26] (fun i wr=>∃k:Nat,k<=3/\i= .int .i64 k/\alX w1 [r0,r1,r2,r3] [.slice A0 k0 c0,.slice A1 k1 c1,.slice A2 k2 c2,.slice A3 k3 c3] k wr) (fun i _=>3 - (intOf i).toNat)
  case atStart=>exact⟨0,by omega,rfl,HST.out⟩
  case round=>
   obtain⟨k,hk,rfl,hst⟩:=hrel;by_cases hlt:k<3
   ·obtain⟨hs3,l3,b1,b2,hin,hb,hj⟩:=hst;obtain⟨r,hrk⟩:∃r,[r0,r1,r2,r3][k]? =some r:=⟨_,anw (by simp;omega)⟩
    obtain⟨Ar,kr,cr,hvk,hrr,hkc⟩:=hin.2 k r hrk;have q1:wr.cell? ⟨w1.heap.size,k,none⟩=some (.slice Ar kr cr):=(b1.cell k).trans (by simpa using hvk);have z1:=b1.lt;have z2:=b2.lt;have hk4:(k:Int)<4:=by omega
    have hk3:(k:Int)<3:=by omega
    have hkr:kr=r.length:=hrr.rd.alH.symm;have hrm:=wQ.out r (anC hrk);have agU:=MP.out;have hset:=hd0 (Nq wr r wr.heap.size Ar kr cr hrr.rd (af _) (by omega));have ahT:Hid (alX w1 [r0,r1,r2,r3] [.slice A0 k0 c0,.slice A1 k1 c1,.slice A2 k2 c2,.slice A3 k3 c3] k wr):=⟨hs3,l3,b1,b2,hin,hb,hj⟩
    have hold:∃u,wr.cell? ⟨w1.heap.size+1,k,none⟩=some u/\Hid (∀w2,Below wr.heap.size wr w2->w2.cell? ⟨w1.heap.size+1,k,none⟩=some u/\w2.frozen? ⟨w1.heap.size+1,k,none⟩=false/\w1.heap.size+1<w2.heap.size):=by
     obtain⟨u,hu⟩:∃u,hs3[k]? =some u:=⟨_,anw (by omega)⟩
     refine⟨u,(b2.cell k).trans (by simpa using hu),fun w2 hb2=> ?_⟩;have b2':=b2.keep (hb2.block _ b2.lt);exact⟨(b2'.cell k).trans (by simpa using hu),b2'.frozen k,b2'.lt⟩
    obtain⟨u,qu,hold⟩:=hold;have Hb:=hd0 hb;clear b1 b2 hin hb hj l3 hrr hkr hrm agU hvk;cases hsl:jb r with
    |none=>
     have HR:Hid (fF gl s l= .error 22):=Ui gl s Hs.out HPL.out (by
      have h3:k=0\/k=1\/k=2:=by omega
      rcases h3 with rfl|rfl|rfl
      ·cases hrk;exact .inl (by rw[mf,hsl];rfl)
      ·cases hrk;exact .inr (.inl (by rw[mf,hsl];rfl))
      cases hrk;exact .inr (.inr (by rw[mf,hsl];rfl)))
     have hs2:∀e w',gQ dZ EI wr r e w'->e= .returned (.tuple #[.slice none 0 0,.bool false])/\Below wr.heap.size wr w':=fun e w' h=>by unfold gQ at h;rw[hsl] at h;exact h
     have HS2:=hd0 hs2;clear hs2 hsl hrk;go_wp2_with fail
     refine hset.out.mono ?_;rintro e w2 hpost;obtain⟨rfl,hb2⟩:=HS2.out _ _ hpost;obtain⟨y1,y2,y3⟩:=hold.out w2 hb2;have HB:Hid (Below Bd w (w2.setCell ⟨w1.heap.size+1,k,none⟩ (.slice none 0 0))):=(((Hb1.out.trans (Hb.out.mono Hb1.out.size)).trans (hb2.mono (by omega))).setCell (by simp;omega) _).mono hB;clear hpost hb2 hold;go_wp2_with fail
     go_ret
     exact akO.bad HR.out HB.out
    |some S=>
     have hs2:∀e w',gQ dZ EI wr r e w'->∃v,e= .returned (.tuple #[v,.bool true])/\wu dZ EI wr w' S v:=fun e w' h=>by unfold gQ at h;rw[hsl] at h;exact h
     have HS2:=hd0 hs2;have xU:Hid (∀w2 v,wu dZ EI wr w2 S v->alX w1 [r0,r1,r2,r3] [.slice A0 k0 c0,.slice A1 k1 c1,.slice A2 k2 c2,.slice A3 k3 c3] (k+1) (w2.setCell ⟨w1.heap.size+1,k,none⟩ v)):=fun w2 v hret=>ahT.out.next hlt hrk hsl hret
     clear hs2 hsl hrk;go_wp2_with fail
     refine hset.out.mono ?_;rintro e w2 hpost;obtain⟨v,rfl,hret⟩:=HS2.out _ _ hpost;have rM:=hd0 (xU.out w2 v hret);obtain⟨A9,c9,h9,rfl,-,-,hb2⟩:=hret;obtain⟨y1,y2,y3⟩:=hold.out w2 hb2;clear hpost hb2 hold xU;go_wp2_with fail
     go_roundw
     case rel=>exact⟨k+1,by omega,by simp,rM.out⟩
     case measure=>simp[intOf];omega
   obtain rfl:k=3:=by omega
   obtain⟨hb3,S0,S1,S2,e0,e1,e2,B0,B1,B2,d0,d1,d2,h0,h1,h2,hT3⟩:=hst.three;have HT3:=hd0 hT3;have WZ:Hid (eP (ag r0)=some (aO S0)):=by show _=_;rw[mf,e0];rfl
   have Am:Hid (eP (ag r1)=some (aO S1)):=by show _=_;rw[mf,e1];rfl
   have HS2:Hid (eP (ag r2)=some (aO S2)):=by show _=_;rw[mf,e2];rfl
   have HE:=hd0 (And.intro (vN e0) (And.intro (vN e1) (vN e2)));have Hb3:=hd0 (hb3.mono hs1);have HB3:Hid (Below w.heap.size w wr):=Hb1.out.trans Hb3.out;have z3:=hb3.size;have kd:wr.cell? ⟨G',q,none⟩=some (.int .i64 lk.kind):=((aj HB3.out).1 _ _ hpb).trans kq;have zG:G'<wr.heap.size:=by omega
   clear hst e0 e1 e2 hT3 hb3 hsub HST kq
   go_upto_region 12 with fail
   go_cut [11] from 18 to 135 (fun s11 wx=>s11= .bool (sG lk.kind)/\wr=wx)
   case first=>
    by_cases G7:lk.kind=1
    ·have hb:Hid (sG lk.kind=true):=by show _=_;rw[G7];rfl
     have e1:(lk.kind==1)=true:=by simp[G7]
     clear G7;go_wp2_with fail
     go_meet
     exact⟨by rw[hb.out],rfl⟩
    have e1:(lk.kind==1)=false:=by simpa using G7
    have hb:Hid (sG lk.kind=(lk.kind==5)):=by show _=_;unfold sG;rw[e1];rfl
    clear G7;go_wp2_with fail
    go_meet
    exact⟨by rw[hb.out],rfl⟩
   case rest=>
    obtain⟨rfl,hwx⟩:=hcut;subst hwx;have m1:wr.cell? ⟨w1.heap.size+1,1,none⟩=some (.slice B1 S1.length d1):=HT3.out.wrt.cell 1;have x3:wr.cell? ⟨w1.heap.size,3,none⟩=some (.slice A3 k3 c3):=by obtain⟨a,b,c,h⟩:=HT3.out.parts;exact h.cell 3
    have zP:w1.heap.size+1<wr.heap.size:=HT3.out.wrt.lt;have hk3:k3=r3.length:=HT3.out.rd.rd.alH.symm;have TY:k3<=1000000000:=by have h1:=wQ.out r3 (by simp);have h2:=MP.out;omega
    have Uk:∀x:WIn (fun v=>Below wr.heap.size wr v),Calls Tryz.prog 135 #[.int .i64 lk.kind,.slice A3 k3 c3] x.w fun e w''=>e= .returned (.bool (eu lk.kind (ag r3)))/\∃y:WIn (fun v=>Below wr.heap.size wr v),w''=y.w:=fun x=>(Yy x.w lk.kind A3 k3 c3 r3 (HT3.out.rd.below x.ok) rf.out TY).mono fun e w'' ⟨h1,h2⟩=>⟨h1,⟨⟨w'',x.ok.trans (h2.mono x.ok.size)⟩,rfl⟩⟩
    have kdX:∀x:WIn (fun v=>Below wr.heap.size wr v),x.w.cell? ⟨G',q,none⟩=some (.int .i64 lk.kind):=fun x=>CY x.ok kd
    have m1X:∀x:WIn (fun v=>Below wr.heap.size wr v),x.w.cell? ⟨w1.heap.size+1,1,none⟩=some (.slice B1 S1.length d1):=fun x=>CY x.ok m1
    have x3X:∀x:WIn (fun v=>Below wr.heap.size wr v),x.w.cell? ⟨w1.heap.size,3,none⟩=some (.slice A3 k3 c3):=fun x=>CY x.ok x3
    clear hk3;generalize harB:eu lk.kind (ag r3)=ab at*
    generalize WX:sG lk.kind=ob at*
    have Ut:=hd0 harB;have XF:=hd0 WX;clear harB WX
    go_upto_region 13 with fail
    go_cut [69] from 18 to 135 (fun s69 wx=>s69= .bool (ob && S1.length !=1|| !ab)/\Below wr.heap.size wr wx)
    case first=>
     cases ob with
     |true=>
      by_cases hs1l:S1.length=1
      ·have e1:((S1.length:Int) !=1)=false:=by simp[hs1l]
       have e2:Hid ((S1.length !=1)=false):=hd0 (by simp[hs1l]);clear hs1l;go_wp2_with fail
       refine bW (fun v=>Below wr.heap.size wr v) (by kernel_rfl) (by kernel_rfl) ((ant wr.heap.size wr).drew) ?_;have bT:Nonempty (WIn (fun v=>Below wr.heap.size wr v)):=⟨⟨_,((ant wr.heap.size wr).drew)⟩⟩
       repeat(go_big_quiet_step (exact Uk _))
       refine wpQuiet_nil ?_;intro _ hw';obtain⟨xq,hw''⟩:=hw';subst hw'';go_wp2
       go_meet
       exact⟨by rw[e2.out];simp,xq.ok⟩
      have e1:((S1.length:Int) !=1)=true:=by simp;omega
      have e2:Hid ((S1.length !=1)=true):=hd0 (by simp;omega);clear hs1l;go_wp2_with fail
      go_quiet (fail)
      go_wp2
      go_meet
      exact⟨by rw[e2.out];simp,below_drewN (ant _ _) _⟩
     |false=>
      go_wp2_with fail
      refine bW (fun v=>Below wr.heap.size wr v) (by kernel_rfl) (by kernel_rfl) ((ant wr.heap.size wr).drew) ?_;have bT:Nonempty (WIn (fun v=>Below wr.heap.size wr v)):=⟨⟨_,((ant wr.heap.size wr).drew)⟩⟩
      repeat(go_big_quiet_step (exact Uk _))
      refine wpQuiet_nil ?_;intro _ hw';obtain⟨xq,hw''⟩:=hw';subst hw'';go_wp2
      go_meet
      exact⟨by simp,xq.ok⟩
    case rest=>
     obtain⟨rfl,hbx⟩:=hcut;cases hbad:(ob && S1.length !=1|| !ab) with
     |true=>
      have HR:Hid (fF gl s l= .error 22):=Yh gl s Hs.out HPL.out WZ.out Am.out HS2.out (by rw[XF.out,Ut.out,uX];exact hbad);have HB:=hd0 ((HB3.out.trans (hbx.mono HB3.out.size)).mono hB);clear hbad hbx;go_wp2_with fail
      go_ret
      exact akO.bad HR.out HB.out
     |false=>
      have HT4:=hd0 (HT3.out.below hbx);have HB4:Hid (Below w.heap.size w wc):=HB3.out.trans (hbx.mono HB3.out.size);have kd4:=CY hbx kd;have z4:=hbx.size;have hle:S0.length<=1000000000/\S1.length<=1000000000/\S2.length<=1000000000:=by obtain⟨⟨g0,-⟩,⟨g1,-⟩,⟨g2,-⟩⟩:=HE.out;have f0:=wQ.out r0 (by simp);have f1:=wQ.out r1 (by simp);have f2:=wQ.out r2 (by simp);have hd:=MP.out;omega
      have MQ:=hd0 hle;have HLR:Hid ((∀r∈S0,r.length<=1000000000)/\(∀r∈S1,r.length<=1000000000)/\(∀r∈S2,r.length<=1000000000)):=by obtain⟨⟨-,g0⟩,⟨-,g1⟩,⟨-,g2⟩⟩:=HE.out;have f0:=wQ.out r0 (by simp);have f1:=wQ.out r1 (by simp);have f2:=wQ.out r2 (by simp);have hd:=MP.out;exact⟨fun r hr=>by have:=g0 r hr;omega,fun r hr=>by have:=g1 r hr;omega,fun r hr=>by have:=g2 r hr;omega⟩
      have NT:=hd0 (fun er l=>RG gl s.cls HP.out.glI HP.out.am2 er [] (by simp) l);clear kd m1 x3 kdX m1X x3X Uk hbx hle;go_wp2_with fail
      refine(gy wc p).mono ?_;rintro e w5 ⟨rfl,nY,hb5⟩;have NG:Hid (Below w.heap.size w w5):=HB4.out.trans (hb5.mono HB4.out.size);have V7:=HT4.out.below hb5;have hA5:=(HP.out.below NG.out).at;have z5:=hb5.size;have m0:w5.cell? ⟨w1.heap.size+1,0,none⟩=some (.slice B0 S0.length d0):=V7.wrt.cell 0;have m1:w5.cell? ⟨w1.heap.size+1,1,none⟩=some (.slice B1 S1.length d1):=V7.wrt.cell 1;have m2:w5.cell? ⟨w1.heap.size+1,2,none⟩=some (.slice B2 S2.length d2):=V7.wrt.cell 2;have IC:Hid (∀W er B n d S h,Rdr W wc.heap.size p er->PAt W p gm cm gl s.cls->RdT W EI B n 1 h->RowsIn dZ W h S->n<=1000000000->(∀r∈S,r.length<=1000000000)->Calls Tryz.prog 136 #[.pointer (some ⟨wc.heap.size,0,none⟩),.slice B n d] W (fun e w'=>∃v,e= .returned v/\al3 W wc.heap.size p (aN gl s.cls er (aO S)).1 n (aN gl s.cls er (aO S)).2 v w')):=fun W er B n d S h g1 g2 g3 g4 g5 g6=>rows_ok W wc.heap.size p gm cm gl s.cls er B n d S h g1 g2 g3 g4 g5 g6 NT.out
      have RJ:=hd0 nY;have HT5:=hd0 V7;have Yq:=hd0 hA5;have Hb5:=hd0 hb5;clear nY V7 hA5 hb5;go_wp2_with fail
      go_region_held3 (fun w'=>w'.cell? ⟨w1.heap.size+1,0,none⟩=some (.slice B0 S0.length d0)/\w'.cell? ⟨w1.heap.size+1,1,none⟩=some (.slice B1 S1.length d1)/\w'.cell? ⟨w1.heap.size+1,2,none⟩=some (.slice B2 S2.length d2))
       (first
        |exact⟨VK.out.wrt.cell 0,VK.out.wrt.cell 1,VK.out.wrt.cell 2⟩
        |exact⟨LP.out.wrt.cell 0,LP.out.wrt.cell 1,LP.out.wrt.cell 2⟩
        |exact⟨Og.out.wrt.cell 0,Og.out.wrt.cell 1,Og.out.wrt.cell 2⟩
        |exact⟨m0,m1,m2⟩
        |go_keep)
       (first
        |(go_at_call 136;refine(IC.out w7 _ _ _ _ S2 h2 X8.out HA7.out LP.out.q2 LP.out.i2 MQ.out.2.2 HLR.out.2.2).mono ?_;rintro e w8 ⟨v8,rfl,A8,c8,hs8,rfl,ho8,hf8,hr8,QW⟩;have VK:=hd0 (LP.out.reader X8.out QW);have HO8:=hd0 ho8;have HF8:=hd0 hf8;have Hr8:=hd0 hr8;have Hg8:=hd0 QW;clear ho8 hf8 hr8 QW)
        |(go_at_call 136;refine(IC.out w6 _ _ _ _ S1 h1 XK.out HA6.out Og.out.q1 Og.out.i1 MQ.out.2.1 HLR.out.2.1).mono ?_;rintro e w7 ⟨v7,rfl,A7,c7,hs7,rfl,ho7,hf7,hr7,QU⟩;have LP:=hd0 (Og.out.reader XK.out QU);have HA7:=hd0 (HA6.out.reader XK.out QU);have HO7:=hd0 ho7;have JJ:=hd0 hf7;have X8:=hd0 hr7;have Hg7:=hd0 QU;clear ho7 hf7 hr7 QU)
        |(go_at_call 136;refine(IC.out w5.drew _ _ _ _ S0 h0 (by exact RJ.out) (by exact(Yq.out.keep (w':=w5.drew) (fun _ _ _ _ _=>rfl) (fun _ _ _ _=>rfl))) (by exact HT5.out.q0.below (ant _ w5).drew) (by exact HT5.out.i0.below (ant _ w5).drew) MQ.out.1 HLR.out.1).mono ?_;rintro e w6 ⟨v6,rfl,A6,c6,hs6,rfl,ho6,hf6,hr6,Jv⟩;have Q4:w5.grownBy w6 (some wc.heap.size):=⟨Jv.os,Jv.tape,Jv.output,Jv.size,Jv.block⟩;have Og:=hd0 (HT5.out.reader RJ.out Q4);have HA6:=hd0 (Yq.out.reader RJ.out Q4);have HO6:=hd0 ho6;have HF6:=hd0 hf6;have XK:=hd0 hr6;have Hg6:=hd0 Q4;clear ho6 hf6 hr6 Q4 Jv))
      have aeC:Hid (alp w5.drew.heap.size A6 S0.length hs6 (aN gl s.cls 0 (aO S0)).2 w8):=((alp.mk' HO6.out HF6.out).reader XK.out Hg7.out).reader X8.out Hg8.out;have aaS:Hid (alp w6.heap.size A7 S1.length hs7 (aN gl s.cls (aN gl s.cls 0 (aO S0)).1 (aO S1)).2 w8):=(alp.mk' HO7.out JJ.out).reader X8.out Hg8.out;have acN:Hid (alp w7.heap.size A8 S2.length hs8 (aN gl s.cls (aN gl s.cls (aN gl s.cls 0 (aO S0)).1 (aO S1)).1 (aO S2)).2 w8):=alp.mk' HO8.out HF8.out;have jI:w.heap.size<=wc.heap.size:=by omega
      have HB8:Hid (Below w.heap.size w w8):=aZ (aZ (aZ NG.out Hg6.out jI) Hg7.out jI) Hg8.out jI;have HLn:Hid (∀er l,∀r∈(aN gl s.cls er l).2,r.length<=1000000000):=fun er l=>EE gl s.cls (fun r=>r.length<=1000000000) (fun er l=>nt (acr gl s.cls HP.out.anr er [] (by simp) l) (by omega)) er l
      have HIn:Hid (∀er l,∀r∈(aN gl s.cls er l).2,∀x∈r,I64 x):=fun er l=>EE gl s.cls (fun r=>∀x∈r,I64 x) (fun er l=>NT.out er l) er l
      have hl0:(aN gl s.cls 0 (aO S0)).2.length=S0.length:=by rw[yf,uX]
      have hl1:(aN gl s.cls (aN gl s.cls 0 (aO S0)).1 (aO S1)).2.length=S1.length:=by rw[yf,uX]
      have hl2:(aN gl s.cls (aN gl s.cls (aN gl s.cls 0 (aO S0)).1 (aO S1)).1 (aO S2)).2.length=S2.length:=by rw[yf,uX]
      have uQ:=hd0 (And.intro hl0 (And.intro hl1 hl2));have H0L:=HLn.out 0 (aO S0);have H0I:=HIn.out 0 (aO S0);have H1L:=HLn.out (aN gl s.cls 0 (aO S0)).1 (aO S1);have H1I:=HIn.out (aN gl s.cls 0 (aO S0)).1 (aO S1);have H2L:=HLn.out (aN gl s.cls (aN gl s.cls 0 (aO S0)).1 (aO S1)).1 (aO S2);have H2I:=HIn.out (aN gl s.cls (aN gl s.cls 0 (aO S0)).1 (aO S1)).1 (aO S2);have HRR:=VO gl s Hs.out HPL.out WZ.out Am.out HS2.out;clear hl0 hl1 hl2;have adq:=hd0 HRR;clear HRR;generalize hq0:aN gl s.cls 0 (aO S0)=y0 at*
      generalize hq1:aN gl s.cls y0.1 (aO S1)=y1 at*
      generalize hq2:aN gl s.cls y1.1 (aO S2)=y2 at*
      have Hq0:=hd0 hq0;have Hq1:=hd0 hq1;have Hq2:=hd0 hq2;clear hq0 hq1 hq2;have VZ:=hd0 (And.intro H0L (And.intro H1L H2L));have H3I:=hd0 (And.intro H0I (And.intro H1I H2I));clear H0L H1L H2L H0I H1I H2I IC Yq HA6 HA7 HO6 HO7 HO8 HF6 JJ HF8 RJ XK X8 HT5 Og LP Hb5 m0 m1 m2;have aa6:=hd0 (aeC.out.sets (c:=c6) MQ.out.1 VZ.out.1 H3I.out.1);go_wp2_with fail
      refine aa6.out.mono ?_;rintro e w9 ⟨v9,rfl,A9,c9,hs9,rfl,aS,hf9,dB⟩;have aa0:=hd0 ((aaS.out.below dB).sets (c:=c7) MQ.out.2.1 VZ.out.2.1 H3I.out.2.1);go_wp2_with fail
      refine aa0.out.mono ?_;rintro e w10 ⟨v10,rfl,vH,c10,hs10,rfl,LV,acU,pF⟩;have aa3:=hd0 (((acN.out.below dB).below pF).sets (c:=c8) MQ.out.2.2 VZ.out.2.2 H3I.out.2.2);go_wp2_with fail
      refine aa3.out.mono ?_;rintro e jh ⟨v11,rfl,Ns,c11,hs11,rfl,ae7,aex,pq⟩;have hab:ab=true:=by
       cases ab with
       |true=>rfl
       |false=>rw[Bool.not_false,Bool.or_true] at hbad;cases hbad
      have hone:¬((lk.kind=1\/lk.kind=5)/\(aO S1).length≠1):=by
       rintro⟨g1,g2⟩;have h1:sG lk.kind=true:=by unfold sG;rcases g1 with g|g<;>rw[g]<;>rfl
       have h2:ob=true:=by rw[<-XF.out,h1]
       rw[uX] at g2;rw[h2,hab] at hbad;simp at hbad;exact g2 hbad
      have hRR:=adq.out hone (by rw[Ut.out,hab]);have NM:Hid (fF gl s l=if kN gl lk.kind y2.1 (ag r3)≠0 then .error (kN gl lk.kind y2.1 (ag r3)) else yT s lk.kind y1.2 (dw gl lk.kind y0.2 y1.2 y2.2 (ag r3))):=by
       show _=_
       first
        |exact hRR
        |(rw[Hq1.out,Hq2.out] at hRR;exact hRR)
        |(subst_vars;exact hRR)
        |(rw[<-Hq2.out,<-Hq1.out];exact hRR)
      have s8:=HB8.out.size;have YY:Hid (Below w.heap.size w jh):=((HB8.out.trans (dB.mono s8)).trans (pF.mono (nt s8 dB.size))).trans (pq.mono (nt s8 (nt dB.size pF.size)));have s11:=YY.out.size;have Y6:=hd0 (((VK.out.below dB).below pF).below pq);have acX:=hd0 (((Hr8.out.below dB).below pF).below pq);have kY:=hd0 (own_below (own_below aS pF) pq);have Zz:=hd0 (own_below LV pq);have acS:=hd0 ae7;have HF9:Hid (Fl akM 1 jh (IB w8.heap.size jh) hs9 (y0.2.map setOf)):=(hf9.ib (aB pF none) (fun g e=>by cases e)).ib (aB pq none) (fun g e=>by cases e);have Ik:Hid (Fl akM 1 jh (IB w9.heap.size jh) hs10 (y1.2.map setOf)):=acU.ib (aB pq none) (fun g e=>by cases e);have acM:=hd0 aex;have s9:=dB.size;have s10:=pF.size;have Ud:=pq.size;have Uy:=hd0 (((aaS.out.below dB).below pF).below pq);have hgm:gm<w.heap.size:=HP.out.gmp.lt;have hpp:p<w.heap.size:=HP.out.par.lt;have HAB:Hid (eu lk.kind (ag r3)=true):=by show _=_;rw[Ut.out,hab]
      have aec:Hid (ob=true->S1.length=1):=fun e=>by
       rw[e,hab] at hbad;simpa using hbad
      clear hRR hone dB pF pq aS LV ae7 hf9 acU aex aa6 aa0 aa3 aeC acN hab hbad;go_wp2_with fail
      obtain⟨oW,Ot⟩:∃oW,jh.alloc (.cells #[.slice A9 S0.length c9,.slice vH S1.length c10,.slice Ns S2.length c11,.slice none 0 0,.slice none 0 0,.int .i64 0] mF)=oW:=⟨_,rfl⟩
      rw[Ot];have hba:Below jh.heap.size jh oW:=Ot ▸ (ant _ _).alloc (af _) _;have vF:=hd0 hba;have nC:Hid (Bk oW jh.heap.size mF #[.slice A9 S0.length c9,.slice vH S1.length c10,.slice Ns S2.length c11,.slice none 0 0,.slice none 0 0,.int .i64 0]):=Ot ▸ Bk.new _ _ _;have Vd:=hd0 (Y6.out.below hba);have oz:=hd0 (acX.out.below hba);have Jr:Hid (Below w.heap.size w oW):=YY.out.trans (hba.mono s11);have ZL:oW.cell? ⟨G',q,none⟩=some (.int .i64 lk.kind):=CY hba (((aj YY.out).1 _ _ hpb).trans KQ0.out);have aaB:oW.cell? ⟨w1.heap.size,3,none⟩=some (.slice A3 k3 c3):=by obtain⟨a,b,c,h⟩:=Vd.out.parts;exact h.cell 3
      have s12:=hba.size;have hCl:=nC.out.lt;have adh:=hd0 ((HP.out.below Jr.out).at.gm);have hout:=hd0 (out_ok oW.drew jh.heap.size wc.heap.size p gm gl lk.kind y2.1 (.slice A9 S0.length c9) (.slice vH S1.length c10) (.slice Ns S2.length c11) A3 k3 c3 r3 (by exact nC.out) (by exact oz.out) (adh.out.below (ant _ oW).drew) (by show p<oW.heap.size;omega) (by omega) (by omega) (by omega) (by omega) (by exact Vd.out.rd.below (ant _ oW).drew) rf.out TY HAB.out y0.2 y1.2 y2.2);have zq1:w1.heap.size<jh.heap.size:=by obtain⟨a,b,c,h⟩:=Y6.out.parts;exact h.lt
      have zq2:w1.heap.size<wc.heap.size:=by obtain⟨a,b,c,h⟩:=HT4.out.parts;exact h.lt
      clear hba Ot;go_wp2_with fail
      try rw[Ot]
      go_region_held3 (fun w'=>w'.cell? ⟨G',q,none⟩=some (.int .i64 lk.kind)/\w'.cell? ⟨w1.heap.size,3,none⟩=some (.slice A3 k3 c3))
       (first
        |exact⟨ZL,aaB⟩
        |exact⟨Yb,Xv⟩
        |go_keep)
       (first
        |(go_at_call 138;refine hout.out.mono ?_;rintro e oV ⟨rfl,hor⟩;have Yb:oV.cell? ⟨G',q,none⟩=some (.int .i64 lk.kind):=(World.cell?_of_block (a:=⟨G',q,none⟩) (hor.two.block G' (by show G'<oW.heap.size;omega) (by omega) (by omega))).trans ZL;have Xv:oV.cell? ⟨w1.heap.size,3,none⟩=some (.slice A3 k3 c3):=(World.cell?_of_block (a:=⟨w1.heap.size,3,none⟩) (hor.two.block w1.heap.size (by show w1.heap.size<oW.heap.size;omega) (by omega) (by omega))).trans aaB;have HOR:=hd0 hor;clear hor))
      obtain⟨⟨Ao,co,Ac,cc,hbk,hoo,hoc⟩,hrd,htw⟩:=HOR.out;have yl:Below w.heap.size w oV:=Two.below (a:=wc.heap.size) (b:=jh.heap.size) (w:=oW.drew) ⟨Jr.out.os,Jr.out.tape,Jr.out.output,Jr.out.size,Jr.out.block⟩ htw (by omega) (by omega);have k13:oV.cell? ⟨wc.heap.size,1,none⟩=some (.int .i64 (kN gl lk.kind y2.1 (ag r3))):=hrd.cell 1;have UB:wc.heap.size<oV.heap.size:=hrd.lt;have jk:=hd0 yl;have iw:=hd0 hbk;have HOO:=hd0 hoo;have HOC:=hd0 hoc;have afP:=hd0 hrd;have vC:=hd0 htw;clear yl hbk hoo hoc hrd htw HOR;generalize hge:kN gl lk.kind y2.1 (ag r3)=er at*
      by_cases her:er=0
      ·subst her;have Oc:Hid (fF gl s l=yT s lk.kind y1.2 (dw gl lk.kind y0.2 y1.2 y2.2 (ag r3))):=by show _=_;rw[NM.out,if_neg (by simp)]
       clear hge;cases ob with
       |false=>
        have VB:Hid (fF gl s l= .ok (lV s fun x=> {x with rules:=x.rules++[dw gl lk.kind y0.2 y1.2 y2.2 (ag r3)]})):=by
         show _=_;rw[Oc.out];unfold yT;have hno:¬(lk.kind=1\/lk.kind=5):=by intro g;have h9:=XF.out;unfold sG at h9;rcases g with g|g<;>rw[g] at h9<;>cases h9
         rw[if_neg hno]
        have aJ:=HP.out.below jk.out;obtain⟨Xf,c14,hv⟩:=aJ.slice (i:=14) (by decide);have hfew:=aJ.few 14 (by decide);have hown:=aJ.live.own 14 (by decide);rw[hv] at hown;have xK:oV.cell? ⟨G',q+2,none⟩=some (.slice Xf (rv 14).n c14):=by rw[<-hv];exact((aj jk.out).1 _ _ hpb).trans KQ2.out
        have vG:=iw.out.cell 0;have xB:=iw.out.cell 1;have Az:=iw.out.cell 2;have Df:=iw.out.cell 3;have G6:=iw.out.cell 4;have Ic:=iw.out.cell 5;simp only[List.getElem?_toArray,anI,anF] at vG xB Az Df G6 Ic;have zp:G'<oV.heap.size:=anD hpb jk.out.size;have zc:=iw.out.lt;obtain⟨A5,c5,Ci,hrun,aS,ax,bi⟩:=iy Md 70 oV Bd _ c14 Xf _ #[.slice A9 S0.length c9,.slice vH S1.length c10,.slice Ns S2.length c11,.slice Ao (dw gl lk.kind y0.2 y1.2 y2.2 (ag r3)).out.length co,.slice Ac (dw gl lk.kind y0.2 y1.2 y2.2 (ag r3)).calls.length cc,.int .i64 (dw gl lk.kind y0.2 y1.2 y2.2 (ag r3)).x] rfl hown (by simp[Value.oneCell']) (by omega) aJ.size;rw[<-hv] at ax bi;have bP:∃cur,Bk Ci G' 72 cur/\cur[q+2]? =some (rv 14).v:=by obtain⟨cur,dB⟩:=vk.out;have h1:Bk Ci G' 72 cur:=Bk.grown (dB.keep (jk.out.block G' hpb)) ax (aJ.live.own 14 (by decide)) (by decide);exact⟨cur,h1,by rw[<-dB.cell];exact KQ2.out⟩
        obtain⟨JG,bP,tK⟩:=bP;have x9:Ci.cell? ⟨G',q+2,none⟩=some (rv 14).v:=(bP.cell _).trans tK;have y9:=bP.frozen (q+2);obtain⟨io,ic,ix⟩:=GN gl HP.out.glI lk.kind y0.2 y1.2 y2.2 (ag r3);have nH:=(ant oW.heap.size oW).drew;have L0:(y0.2.map setOf).length=S0.length:=by rw[anB];exact uQ.out.1
        have L1:(y1.2.map setOf).length=S1.length:=by rw[anB];exact uQ.out.2.1
        have L2:(y2.2.map setOf).length=S2.length:=by rw[anB];exact uQ.out.2.2
        have q9:=uo vC.out (by exact oz.out) (by exact nC.out) (by decide) (by decide) (own_below (own_below kY.out vF.out) nH);have q10:=uo vC.out (by exact oz.out) (by exact nC.out) (by decide) (by decide) (own_below (own_below Zz.out vF.out) nH);have q11:=uo vC.out (by exact oz.out) (by exact nC.out) (by decide) (by decide) (own_below (own_below acS.out vF.out) nH);have f9:=uN vC.out (by exact oz.out) (by exact nC.out) (by decide) (by decide) ((HF9.out.ib (aB vF.out none) (fun g e=>by cases e)).ib (aB nH none) (fun g e=>by cases e));have f10:=uN vC.out (by exact oz.out) (by exact nC.out) (by decide) (by decide) ((Ik.out.ib (aB vF.out none) (fun g e=>by cases e)).ib (aB nH none) (fun g e=>by cases e));have f11:=uN vC.out (by exact oz.out) (by exact nC.out) (by decide) (by decide) ((acM.out.ib (aB vF.out none) (fun g e=>by cases e)).ib (aB nH none) (fun g e=>by cases e));rw[<-L0] at q9;rw[<-L1] at q10;rw[<-L2] at q11;have hdr:oW.drew.heap.size=oW.heap.size:=rfl;have hrel:=Ou HP.out q9 f9 q10 f10 q11 f11 HOO.out HOC.out io ic ix (by omega) (by omega) (by omega) (by omega) (by omega) (by omega) (by omega) (by omega);rw[L0,L1,L2] at hrel;have bK:=hd0 (PSt.amf aJ Hs.out H0.out (y:=dw gl lk.kind y0.2 y1.2 y2.2 (ag r3)) (K':=K+n) ax aS bi (Fl.one (R:=ak3) hrel rfl) (by omega));rw[<-Hq.out] at bK;have HQ:=hd0 (KQ.below (cm:=cm) jk.out);have tX:=hd0 (jk.out.mono hB);have Nv:Hid (fF gl s l= .ok {s with f:= {s.f with akK:=init++[{lk with rules:=lk.rules++[dw gl lk.kind y0.2 y1.2 y2.2 (ag r3)]}]}}):=by show _=_;rw[VB.out,Gx s _ Hs.out]
        clear hown aS bi bP tK q9 q10 q11 f9 f10 f11 hrel io ic ix L0 L1 L2 hdr nH ax aJ;go_wp2_with fail
        go_region
        all_goals
         go_wp2;go_ret
         obtain⟨rv',g1,g2,g3⟩:=bK.out;exact akO.good Nv.out (tX.out.trans g3) (HQ.out.trans g2) g1
       |true=>
        have hs1:=aec.out rfl;obtain⟨gg,hgg⟩:∃gg,y1.2=[gg]:=by
         have h9:=uQ.out.2.1;rw[hs1] at h9
         match y1.2,h9 with
         |[a],_=>exact⟨a,rfl⟩
        clear aec;generalize hyy:y1.2=yy at*
        generalize hmm:S1.length=m1 at*
        subst hgg hs1;clear hyy hmm;have VB:Hid (fF gl s l=match fE gg (dw gl lk.kind y0.2 [gg] y2.2 (ag r3)).out with
          | .error e=> .error e
          | .ok o=> .ok (lV s fun x=> {x with rules:=x.rules++[{dw gl lk.kind y0.2 [gg] y2.2 (ag r3) with out:=o}]})):=by
         show _=_;rw[Oc.out];unfold yT;have hyes:lk.kind=1\/lk.kind=5:=by have h9:=XF.out;unfold sG at h9;simpa using h9
         rw[if_pos hyes];rfl
        have nH:=(ant oW.heap.size oW).drew;have hw1:alp w6.heap.size A7 1 hs7 [gg] oV:=⟨vC.out.rdT (by exact oz.out) (by exact nC.out) (by decide) (by decide) ((Uy.out.rd.below vF.out).below nH),uN vC.out (by exact oz.out) (by exact nC.out) (by decide) (by decide) ((Uy.out.fl.ib (aB vF.out none) (fun g e=>by cases e)).ib (aB nH none) (fun g e=>by cases e))⟩
        have q10:=uo vC.out (by exact oz.out) (by exact nC.out) (by decide) (by decide) (own_below (own_below Zz.out vF.out) nH);have f10:=uN vC.out (by exact oz.out) (by exact nC.out) (by decide) (by decide) ((Ik.out.ib (aB vF.out none) (fun g e=>by cases e)).ib (aB nH none) (fun g e=>by cases e));have hw2:=alp.mk' q10 f10;obtain⟨b1,o1,A20,c20,rfl,zb1,g1,R1⟩:=hw1.first (by omega);obtain⟨b2,o2,A21,c21,rfl,zb2,g2,R2⟩:=hw2.first (by omega);have h1:=iw.out.cell 1;have h3:=iw.out.cell 3;have y3:=iw.out.frozen 3;simp only[List.getElem?_toArray,anI,anF] at h1 h3;have zc:=iw.out.lt;have hk3:=Vd.out.rd.rd.alH;have hol:(dw gl lk.kind y0.2 [gg] y2.2 (ag r3)).out.length<=1000000000:=nt (U5 _ _ _ _ _ _) (by rw[iC,hk3];exact TY);have hgl:gg.length<=1000000000:=VZ.out.2.1 gg (by simp);have hsl:=nt (Kv gg) hgl;obtain⟨io,ic,ix⟩:=GN gl HP.out.glI lk.kind y0.2 [gg] y2.2 (ag r3);have R3:Rd oV oV.heap.size Ao (dw gl lk.kind y0.2 [gg] y2.2 (ag r3)).out.length 1 (aH (dw gl lk.kind y0.2 [gg] y2.2 (ag r3)).out):=(jl HOO.out).rd;have hso:=Vy oV.drew A20 A21 Ao _ _ _ c20 c21 co gg (setOf gg) (dw gl lk.kind y0.2 [gg] y2.2 (ag r3)).out rfl (by exact R1) (by exact R2) (by exact R3) hgl hsl hol;have HIO:=hd0 io;have HIC:=hd0 ic;have HIX:=hd0 ix;clear io ic ix R1 R2 R3 hol hgl hsl hk3 hw1 hw2 q10 f10;generalize hro:(dw gl lk.kind y0.2 [gg] y2.2 (ag r3)).out=ro at*
        have HRO:=hd0 hro;clear hro;go_wp2_with fail
        have Ws:=hd0 (And.intro s8 (And.intro s9 (And.intro s10 (And.intro s11 (And.intro Ud (And.intro s12 (And.intro hCl (And.intro jI UB))))))));clear s8 s9 s10 Ud s12 hCl jI UB z3 z4 z5 zG zP zq1 zq2 hgm hpp hs1 hnn hc kd4 ZL aaB Yb Xv k13;clear HT3 HT4 HB4 NG HB8 Hg6 Hg7 Hg8 HLn HIn NT adq Hr8 Hq0 Hq1 Hq2 acX VK adh aaS Uy hout HE WZ Am HS2 HPL wQ afE Hg MP HL Hb1 Hb3 HB3 H3I HAB NM Oc Y6 Vd rf TY Ut VZ MQ HRO afP XF HLR;have HSO:=hd0 hso;have YJ:=hd0 (ant oV.heap.size oV).drew;clear hso;go_cut [17] from 109 to 122 (fun s17 wx=>∃l7 yK n30 yD code,s17= .int .i64 code/\wx=l7.setCell ⟨jh.heap.size,3,none⟩ (.slice yK n30 yD)/\alY oV.drew (fE gg ro) (.returned (.tuple #[.slice yK n30 yD,.int .i64 code])) l7)
        case first=>
         go_region_with (go_at_call 139;refine HSO.out.mono ?_;rintro e l7 hpost;obtain⟨yK,n30,yD,code,rfl,hpost⟩:=hpost.shape;have BR:=hpost.1;have b14:=iw.out.keep (BR.block _ zc);have x9:=(b14.cell 3).trans rfl;have y9:=b14.frozen 3;have HPO:=hd0 hpost;clear BR b14 hpost)
         all_goals
          go_wp2_with fail
          go_meet
          exact⟨l7,yK,n30,yD,code,rfl,rfl,HPO.out⟩
        case rest=>
        obtain⟨l7,yK,n30,yD,code,rfl,rfl,hpost⟩:=hcut;have b14:Bk l7 jh.heap.size mF #[.slice A9 S0.length c9,.slice (some ⟨b2,o2,none⟩) 1 c10,.slice Ns S2.length c11,.slice Ao ro.length co,.slice Ac (dw gl lk.kind y0.2 [gg] y2.2 (ag r3)).calls.length cc,.int .i64 (dw gl lk.kind y0.2 [gg] y2.2 (ag r3)).x]:=iw.out.keep (hpost.1.block _ zc);have aa1:=hd0 b14;have Zr:=hd0 hpost.1;clear b14 g1 g2 h1 h3 y3;cases hsort:fE gg ro with
        |error e9=>
         rw[hsort] at hpost;have he9:(code !=0)=true:=by have:=hpost.2;simp only[Ending.returned.injEq,Value.tuple.injEq] at this;simp only[Array.mk.injEq,aol,Value.int.injEq,true_and,and_true] at this;have h9:code=e9:=this.2;subst h9;rcases Qg hsort with rfl|rfl<;>rfl
         have hce:code=e9:=by have:=hpost.2;simp only[Ending.returned.injEq,Value.tuple.injEq,Array.mk.injEq,aol,Value.int.injEq,true_and,and_true] at this;exact this.2
         have Nv:Hid (fF gl s l= .error code):=by show _=_;rw[VB.out,hsort,hce]
         clear hpost hsort hce;go_wp2_with fail
         go_ret
         exact akO.bad Nv.out (((jk.out.trans (YJ.out.mono jk.out.size)).trans (Zr.out.mono jk.out.size)).setCell (by obtain⟨s8,s9,s10,s11,-⟩:=Ws.out;omega) _|>.mono hB)
        |ok o9=>
         rw[hsort] at hpost;obtain⟨A31,c31,e31,Jf⟩:=hpost.2;have h31:yK=A31/\n30=o9.length/\yD=c31/\code=0:=by simp only[Ending.returned.injEq,Value.tuple.injEq] at e31;simpa [and_assoc] using e31
         obtain⟨rfl,rfl,rfl,rfl⟩:=h31;have aeh:=hd0 Jf;have agI:=hd0 (Qn hsort HIO.out);have Nv:Hid (fF gl s l= .ok {s with f:= {s.f with akK:=init++[{lk with rules:=lk.rules++[{dw gl lk.kind y0.2 [gg] y2.2 (ag r3) with out:=o9}]}]}}):=by show _=_;rw[VB.out,hsort];simp only;rw[Gx s _ Hs.out]
         have Vr:Bk (l7.setCell ⟨jh.heap.size,3,none⟩ (.slice yK o9.length yD)) jh.heap.size mF #[.slice A9 S0.length c9,.slice (some ⟨b2,o2,none⟩) 1 c10,.slice Ns S2.length c11,.slice yK o9.length yD,.slice Ac (dw gl lk.kind y0.2 [gg] y2.2 (ag r3)).calls.length cc,.int .i64 (dw gl lk.kind y0.2 [gg] y2.2 (ag r3)).x]:=aa1.out.set 3 _;have nV:oV.grownBy (l7.setCell ⟨jh.heap.size,3,none⟩ (.slice yK o9.length yD)) (some jh.heap.size):=df (aB YJ.out _) (df (aB Zr.out _) (dE l7 _ _));have Y4:=aeh.out.kept (dE l7 ⟨jh.heap.size,3,none⟩ (.slice yK o9.length yD)) (bY aeh.out aa1.out (by decide));have IM:Below w.heap.size w (l7.setCell ⟨jh.heap.size,3,none⟩ (.slice yK o9.length yD)):=((jk.out.trans (YJ.out.mono jk.out.size)).trans (Zr.out.mono jk.out.size)).setCell (by obtain⟨s8,s9,s10,s11,-⟩:=Ws.out;omega) _;clear hpost hsort e31 Jf;obtain⟨Ci,ael⟩:∃x,(l7.setCell ⟨jh.heap.size,3,none⟩ (.slice yK o9.length yD))=x:=⟨_,rfl⟩
         rw[ael] at Vr nV Y4 IM ⊢;clear ael;have zK:=hd0 Vr;have Jd:=hd0 IM;have aJ:=HP.out.below Jd.out;obtain⟨Xf,c14,hv⟩:=aJ.slice (i:=14) (by decide);have hfew:=aJ.few 14 (by decide);have hown:=aJ.live.own 14 (by decide);rw[hv] at hown;have xK:Ci.cell? ⟨G',q+2,none⟩=some (.slice Xf (rv 14).n c14):=by rw[<-hv];exact((aj Jd.out).1 _ _ hpb).trans KQ2.out
         have vG:=zK.out.cell 0;have xB:=zK.out.cell 1;have Az:=zK.out.cell 2;have Df:=zK.out.cell 3;have G6:=zK.out.cell 4;have Ic:=zK.out.cell 5;simp only[List.getElem?_toArray,anI,anF] at vG xB Az Df G6 Ic;have zp:G'<Ci.heap.size:=anD hpb Jd.out.size;have ajl:=zK.out.lt;obtain⟨A5,c5,w16,hrun,aS,ax,bi⟩:=iy Md 70 Ci Bd _ c14 Xf _ #[.slice A9 S0.length c9,.slice (some ⟨b2,o2,none⟩) 1 c10,.slice Ns S2.length c11,.slice yK o9.length yD,.slice Ac (dw gl lk.kind y0.2 [gg] y2.2 (ag r3)).calls.length cc,.int .i64 (dw gl lk.kind y0.2 [gg] y2.2 (ag r3)).x] rfl hown (by simp[Value.oneCell']) (by omega) aJ.size;rw[<-hv] at ax bi;have bP:∃cur,Bk w16 G' 72 cur/\cur[q+2]? =some (rv 14).v:=by obtain⟨cur,dB⟩:=vk.out;have h1:Bk w16 G' 72 cur:=Bk.grown (dB.keep (Jd.out.block G' hpb)) ax (aJ.live.own 14 (by decide)) (by decide);exact⟨cur,h1,by rw[<-dB.cell];exact KQ2.out⟩
         obtain⟨JG,bP,tK⟩:=bP;have x9:w16.cell? ⟨G',q+2,none⟩=some (rv 14).v:=(bP.cell _).trans tK;have y9:=bP.frozen (q+2);have L0:(y0.2.map setOf).length=S0.length:=by rw[anB];exact uQ.out.1
         have L1:([gg].map setOf).length=1:=by rw[anB];exact uQ.out.2.1
         have L2:(y2.2.map setOf).length=S2.length:=by rw[anB];exact uQ.out.2.2
         have q9:=uo vC.out (by exact oz.out) (by exact nC.out) (by decide) (by decide) (own_below (own_below kY.out vF.out) nH);have q10:=uo vC.out (by exact oz.out) (by exact nC.out) (by decide) (by decide) (own_below (own_below Zz.out vF.out) nH);have q11:=uo vC.out (by exact oz.out) (by exact nC.out) (by decide) (by decide) (own_below (own_below acS.out vF.out) nH);have f9:=uN vC.out (by exact oz.out) (by exact nC.out) (by decide) (by decide) ((HF9.out.ib (aB vF.out none) (fun g e=>by cases e)).ib (aB nH none) (fun g e=>by cases e));have f10:=uN vC.out (by exact oz.out) (by exact nC.out) (by decide) (by decide) ((Ik.out.ib (aB vF.out none) (fun g e=>by cases e)).ib (aB nH none) (fun g e=>by cases e));have f11:=uN vC.out (by exact oz.out) (by exact nC.out) (by decide) (by decide) ((acM.out.ib (aB vF.out none) (fun g e=>by cases e)).ib (aB nH none) (fun g e=>by cases e));rw[<-L0] at q9;rw[<-L1] at q10;rw[<-L2] at q11;have q9':=q9.kept nV (bY q9 iw.out (by decide));have ae4:=q10.kept nV (bY q10 iw.out (by decide));have adI:=q11.kept nV (bY q11 iw.out (by decide));have f9':=f9.ib nV (fun g e=>by cases e;exact⟨_,_,iw.out,by decide⟩);have adk:=f10.ib nV (fun g e=>by cases e;exact⟨_,_,iw.out,by decide⟩);have f11':=f11.ib nV (fun g e=>by cases e;exact⟨_,_,iw.out,by decide⟩);have qc':=HOC.out.kept nV (bY HOC.out iw.out (by decide));have hdr:oW.drew.heap.size=oW.heap.size:=rfl;have aff:oV.drew.heap.size=oV.heap.size:=rfl;have agk:=jk.out.size;obtain⟨s8,s9,s10,-,Ud,s12,hCl,jI,UB⟩:=Ws.out;have hrel:=Ou HP.out q9' f9' ae4 adk adI f11' Y4 qc' agI.out HIC.out HIX.out (by omega) (by omega) (by omega) (by omega) (by omega) (by omega) (by omega) (by omega);rw[L0,L1,L2] at hrel;have bK:=hd0 (PSt.amf aJ Hs.out H0.out (y:= {dw gl lk.kind y0.2 [gg] y2.2 (ag r3) with out:=o9}) (K':=K+n) ax aS bi (Fl.one (R:=ak3) hrel rfl) (by omega));rw[<-Hq.out] at bK;have HQ:=hd0 (KQ.below (cm:=cm) Jd.out);have tX:=hd0 (Jd.out.mono hB);clear s8 s9 s10 Ud s12 hCl jI UB hown aS bi bP tK q9 q10 q11 f9 f10 f11 q9' ae4 adI f9' adk f11' qc' Y4 Vr IM nV hrel L0 L1 L2 hdr aff agk ax aJ;go_wp2_with fail
         go_region
         all_goals
          go_wp2;go_ret
          obtain⟨rv',g1,g2,g3⟩:=bK.out;exact akO.good Nv.out (tX.out.trans g3) (HQ.out.trans g2) g1
      have HR:Hid (fF gl s l= .error er):=by show _=_;rw[NM.out,if_pos her]
      have e1:(er==0)=false:=by simpa using her
      have e2:(er !=0)=true:=by simpa using her
      clear hge her;go_wp2_with fail
      go_ret
      exact akO.bad HR.out (jk.out.mono hB)
end Go.Proofs.YtkijckccfookeaaGreatDoor
