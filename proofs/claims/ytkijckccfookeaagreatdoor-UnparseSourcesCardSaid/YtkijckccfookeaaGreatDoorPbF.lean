/- parse: a rule, the walk. -/
import Derived.Test.YtkijckccfookeaaGreatDoorV34
set_option linter.unusedVariables false
set_option linter.unusedSimpArgs false
set_option maxRecDepth 100000
set_option maxHeartbeats 32000000
namespace Go.Proofs.YtkijckccfookeaaGreatDoor
open Go.RowKit
attribute [-go_sem] Builtin.append_
structure Three (w1 wr:World)(r3:List P3)(A3:Option Addr)(k3 c3:Nat)(S0 S1 S2:List (List P3))(B0 B1 B2:Option Addr)(d0 d1 d2:Nat)(h0 h1 h2:List Value):Prop where
 parts:∃a b c,Bk wr w1.heap.size iO #[a,b,c,.slice A3 k3 c3]
 wrt:Bk wr (w1.heap.size+1) Yc #[.slice B0 S0.length d0,.slice B1 S1.length d1,.slice B2 S2.length d2]
 rd:RdT wr dW A3 k3 3 (dA r3)
 q0:RdT wr CS B0 S0.length 1 h0
 q1:RdT wr CS B1 S1.length 1 h1
 q2:RdT wr CS B2 S2.length 1 h2
 i0:RowsIn dW wr h0 S0
 i1:RowsIn dW wr h1 S1
 i2:RowsIn dW wr h2 S2
theorem aiT.three {w1 wr:World}{r0 r1 r2 r3:List P3}{A0 A1 A2 A3:Option Addr}{k0 k1 k2 k3 c0 c1 c2 c3:Nat}(h:aiT w1 [r0,r1,r2,r3] [.slice A0 k0 c0,.slice A1 k1 c1,.slice A2 k2 c2,.slice A3 k3 c3] 3 wr):
  Below w1.heap.size w1 wr/\∃S0 S1 S2,iU r0=some S0/\iU r1=some S1/\iU r2=some S2/\∃B0 B1 B2 d0 d1 d2 h0 h1 h2,Three w1 wr r3 A3 k3 c3 S0 S1 S2 B0 B1 B2 d0 d1 d2 h0 h1 h2:=by
 obtain⟨hs,l3,b1,b2,hin,hb,hj⟩:=h;obtain⟨S0,B0,d0,g0,e0,f0,m0,n0⟩:=hj 0 r0 (by omega) rfl;obtain⟨S1,B1,d1,g1,e1,f1,m1,n1⟩:=hj 1 r1 (by omega) rfl;obtain⟨S2,B2,d2,g2,e2,f2,m2,n2⟩:=hj 2 r2 (by omega) rfl;refine⟨hb,S0,S1,S2,e0,e1,e2,B0,B1,B2,d0,d1,d2,g0,g1,g2,⟨_,_,_,b1⟩,?_,?_,m0,m1,m2,n0,n1,n2⟩
 ·match hs,l3,b2,f0,f1,f2 with
  |[a,b,c],_,b2,f0,f1,f2=>cases f0;cases f1;cases f2;exact b2
 obtain⟨Ar,kr,cr,hv,hr,-⟩:=hin.2 3 r3 rfl;cases hv;exact hr
theorem Three.below {w1 wr w2:World}{r3:List P3}{A3:Option Addr}{k3 c3:Nat}{S0 S1 S2:List (List P3)}{B0 B1 B2:Option Addr}{d0 d1 d2:Nat}{h0 h1 h2:List Value}(h:Three w1 wr r3 A3 k3 c3 S0 S1 S2 B0 B1 B2 d0 d1 d2 h0 h1 h2)(hb:Below wr.heap.size wr w2):Three w1 w2 r3 A3 k3 c3 S0 S1 S2 B0 B1 B2 d0 d1 d2 h0 h1 h2:=by obtain⟨a,b,c,hp⟩:=h.parts;exact⟨⟨a,b,c,hp.keep (hb.block _ hp.lt)⟩,h.wrt.keep (hb.block _ h.wrt.lt),h.rd.below hb,h.q0.below hb,h.q1.below hb,h.q2.below hb,h.i0.below hb,h.i1.below hb,h.i2.below hb⟩
theorem Three.reader {w1 wr w2:World}{r3:List P3}{A3:Option Addr}{k3 c3:Nat}{S0 S1 S2:List (List P3)}{B0 B1 B2:Option Addr}{d0 d1 d2:Nat}{h0 h1 h2:List Value}{rb p:Nat}{er:Int}(h:Three w1 wr r3 A3 k3 c3 S0 S1 S2 B0 B1 B2 d0 d1 d2 h0 h1 h2)(hr:Rdr wr rb p er)(hg:wr.grownBy w2 (some rb)):Three w1 w2 r3 A3 k3 c3 S0 S1 S2 B0 B1 B2 d0 d1 d2 h0 h1 h2:=by
 obtain⟨a,b,c,hp⟩:=h.parts;have hx:∀(t:TypeId),t≠Jw->∀g,some rb=some g->∃cur t',Bk wr g t' cur/\t≠t':=fun t ht g e=>by
  cases e;exact⟨_,_,hr,ht⟩
 have hb:∀(g:Nat) (t:TypeId) (cs:Array Value),Bk wr g t cs->t≠Jw->Bk w2 g t cs:=fun g t cs hk ht=>Bk.kept2 hg hk (fun e=>by subst e;exact ht (dR hk hr).1)
 exact⟨⟨a,b,c,hb _ _ _ hp (by decide)⟩,hb _ _ _ h.wrt (by decide),h.rd.grown hg (hx _ (by decide)),h.q0.grown hg (hx _ (by decide)),h.q1.grown hg (hx _ (by decide)),h.q2.grown hg (hx _ (by decide)),h.i0.kept fun _ _ _ k=>k.grown hg (hx _ (by decide)),h.i1.kept fun _ _ _ k=>k.grown hg (hx _ (by decide)),h.i2.kept fun _ _ _ k=>k.grown hg (hx _ (by decide))⟩
def qL (kd:Int):Bool:=kd==1||kd==5
theorem Vb (gl:Gl)(s:PS){l:List B}{init:List Lookup}{lk:Lookup}(hs:s.f.ahP=init++[lk]){p0 p1 p2 p3:List B}(h:oP l=some [p0,p1,p2,p3]){T0 T1 T2:List (List B)}(h0:eG p0=some T0)(h1:eG p1=some T1)(h2:eG p2=some T2)(hbad:(qL lk.kind && T1.length !=1|| !dY lk.kind p3)=true):ed gl s l= .error 22:=by
 unfold ed;rw[hs,List.getLast?_append];simp only[List.getLast?_singleton,Option.some_or];rw[h];simp only;rw[h0,h1,h2];simp only;by_cases c1:(lk.kind=1\/lk.kind=5)/\T1.length≠1
 ·rw[if_pos c1]
 rw[if_neg c1,if_pos];cases ha:dY lk.kind p3 with
 |false=>rfl
 |true=>rw[ha] at hbad;exfalso;apply c1;simp only[Bool.not_true,Bool.or_false,akK,qL,Bool.or_eq_true,beq_iff_eq,bne_iff_ne] at hbad;exact hbad
theorem TQ (n:Nat)(cur:List P3)(told:List (List P3))(ws:List P3)(rows:List (List P3))(h:dP n cur told ws=some rows):∀r∈rows,r∈told\/∀x∈r,x∈cur\/x∈ws:=by
 induction ws generalizing n cur told with
 |nil=>
  rw[dP] at h;split at h
  ·cases h;intro r hr;rcases akq.1 hr with g|g
   ·exact .inl g
   simp only[akm] at g;subst g;exact .inr fun x hx=> .inl hx
  cases h
 |cons w r ih=>
  rw[dP] at h;split at h
  ·intro x hx;refine(ih n (cur++[w]) told h x hx).imp id fun g y hy=> ?_
   rcases g y hy with g|g
   ·rcases akq.1 g with g|g
    ·exact .inl g
    simp only[akm] at g;exact .inr (by simp[g])
   exact .inr (by simp[g])
  split at h
  ·intro x hx;rcases ih (n+1) [] (told++[cur]) h x hx with g|g
   ·rcases akq.1 g with g|g
    ·exact .inl g
    simp only[akm] at g;subst g;exact .inr fun y hy=> .inl hy
   refine .inr fun y hy=> ?_
   rcases g y hy with g|g
   ·simp at g
   exact .inr (by simp[g])
  cases h
theorem Rn {ws:List P3}{rows:List (List P3)}(h:ku ws=some rows):∀r∈rows,∀x∈r,x∈ws:=fun r hr x hx=>by
 rcases TQ 0 [] [] ws rows h r hr with g|g
 ·simp at g
 rcases g x hx with g|g
 ·simp at g
 exact g
theorem AZ {w w':World}(hb:Below w.heap.size w w'){p:Addr}{v:Value}(h:w.cell? p=some v):w'.cell? p=some v:=(hb.cell (World.block_lt_of_cell? w p h)).trans h
theorem EE (gl:Gl)(hg:∀t n,gl.lookup t=some n->n<=1000000000)(kind:Int)(b i a:List (List Int))(p3:List B):(∀y∈(cZ gl kind b i a p3).out,I64 y)/\(∀y∈(cZ gl kind b i a p3).calls,I64 y.at'/\I64 y.lookup)/\I64 (cZ gl kind b i a p3).x:=by
 unfold cZ;simp only;refine⟨?_,?_,?_⟩
 ·split
  ·intro y hy;obtain⟨t,_,rfl⟩:=akQ.1 hy;exact Cb hg t
  intro y hy;simp at hy
 ·split
  ·intro y hy;obtain⟨t,_,rfl⟩:=akQ.1 hy;exact⟨dG _,dG _⟩
  intro y hy;simp at hy
 split
 ·exact dG _
 exact⟨by omega,by omega⟩
theorem sJ (S:List (List P3)):(aJ S).length=S.length:=by simp[aJ]
theorem aiU.shape {w w':World}{r:Except Int (List Int)}{e:Ending}(h:aiU w r e w'):∃A n c,∃code:Int,e= .returned (.tuple #[.slice A n c,.int .i64 code])/\aiU w r (.returned (.tuple #[.slice A n c,.int .i64 code])) w':=by
 obtain⟨h1,h2⟩:=h;cases r with
 |error c=>exact⟨none,0,0,c,h2,h1,rfl⟩
 |ok o=>obtain⟨A,c,h3,h4⟩:=h2;exact⟨A,_,c,0,h3,h1,A,c,rfl,h4⟩
theorem QQ (gl:Gl)(kd:Int)(b i a:List (List Int))(p:List B):(cZ gl kd b i a p).out.length<=p.length:=by unfold cZ;simp only;split<;>simp
theorem NR {l nm:List Int}{e:Int}(h:dZ l nm= .error e):e=24\/e=22:=by
 unfold dZ at h;split at h
 ·injection h with h;exact .inl h.symm
 split at h
 ·injection h with h;exact .inr h.symm
 cases h
theorem NG {l nm o:List Int}(h:dZ l nm= .ok o)(hn:∀x∈nm,I64 x):∀x∈o,I64 x:=by
 unfold dZ at h;split at h
 ·cases h
 split at h
 ·cases h
 injection h with h
 subst h;intro x hx;rw[akQ] at hx;obtain⟨g,-,rfl⟩:=hx;rw[List.getD_eq_getElem?_getD];cases hg:nm[l.idxOf g]? with
 |none=>exact⟨by decide,by decide⟩
 |some v=>exact hn v (akt hg)
theorem MZ (w:World)(Bd p gm cm:Nat)(gl:Gl)(s:PS)(rv:Rows)(K:Nat)(A:Option Addr)(n c:Nat)(ws:List P3)(t:B)(l:List B)(hP:PSt w Bd p gm cm gl s rv K)(hL:aif w A n ws)(hT:af ws=t::l)(hK:K<=10000000000)(hc:n<=c){init:List Lookup}{lk:Lookup}(hs:s.f.ahP=init++[lk]){G n0 c9 q:Nat}(h0:(rv 2).v= .slice (some ⟨G,0,none⟩) n0 c9)(hq:q=init.length*3):
  Calls Tryz.prog 89 #[.pointer (some ⟨p,0,none⟩),.slice A n c,.pointer (some ⟨G,q,none⟩)] w (ahS w Bd p gm cm gl (K+n) (ed gl s l)):=by
 have hn:n=l.length+1:=by rw[<-hL.length];exact dE hT
 have hB:=hP.size;have hnn:=hL.few;have abG:=hL.length;obtain⟨A',hsub,hrd,hlen⟩:=hL.sub hc 1 1 rfl (by omega);have hrest:=jA hT;have HP:=hd0 hP;obtain⟨G',c9',ci,gv,-,-,hGb,jJ,yG,sF⟩:=hP.ai5 hs;obtain⟨rfl,hn0,rfl⟩:G'=G/\init.length+1=n0/\c9'=c9:=by rw[gv] at h0;simpa using h0
 have hpb:G'<w.heap.size:=hGb;have kq:w.cell? ⟨G',q,none⟩=some (.int .i64 lk.kind):=by have:=jJ 0 (by decide);rw[Nat.add_zero,<-hq] at this;exact this
 have KQ0:=hd0 kq;have YA:Hid (w.cell? ⟨G',q+2,none⟩=some (rv 14).v):=by show _=_;rw[hq];exact jJ 2 (by decide)
 have Hs:=hd0 hs;have Hq:=hd0 hq;have H0:=hd0 h0;have tq:=hd0 sF;have HL:=hd0 hlen;have EN:=hd0 hrd;have hds:(ws.drop 1).length<=1000000000:=by rw[ak0];omega
 have Kw:=hd0 hds;have hcut:=hd0 (QP w A' (n - 1) (c - 1) (ws.drop 1) hrd (by omega));have hn1:1<=n:=by omega
 have hpT:=NI (ws.drop 1);rw[hrest] at hpT;have Ti:=hd0 hpT;have ac4:=hd0 hrest;generalize ws.drop 1=ws1 at*
 clear hP hL hT hrd hlen hn hrest hs hq h0 gv jJ yG sF hn0 hds hpT abG;go_enter Tryz.func89,Tryz.ntmps89
 go_wp2_with fail
 refine hcut.out.mono ?_;rintro e w1 ⟨hb1,A0,k0,c0,A1,k1,c1,A2,k2,c2,A3,k3,c3,hpost⟩;cases hpl:ku ws1 with
 |none=>
  have HR:Hid (ed gl s l= .error 22):=Qx gl s Hs.out (by rw[Ti.out,hpl];rfl);rw[hpl] at hpost;have hpost:e=_:=hpost;subst hpost;have HB:=hd0 ((hb1.alloc hb1.size (.cells #[.slice A0 k0 c0,.slice A1 k1 c1,.slice A2 k2 c2,.slice A3 k3 c3] iO)).mono hB);clear hb1 hpl;go_wp2;go_ret
  exact ahS.bad HR.out HB.out
 |some rows=>
  rw[hpl] at hpost;obtain⟨rfl,hin⟩:e=_/\RowsIn dW w1 _ rows:=hpost;have HST:=hd0 (aiT.start hin);obtain⟨hr4,hrl⟩:=Ny hpl;obtain⟨r0,r1,r2,r3,rfl⟩:∃a b c d,rows=[a,b,c,d]:=by
   match rows,hr4 with
   |[a,b,c,d],_=>exact⟨a,b,c,d,rfl⟩
  have Yj:Hid (oP l=some [af r0,af r1,af r2,af r3]):=by show _=_;rw[Ti.out,hpl];rfl
  have yR:=hd0 hrl;have OM:Hid (∀x∈r3,x.2.2.length<=800000000):=fun x hx=>HL.out x (Rn hpl r3 (by simp) x hx)
  have Hb1:=hd0 hb1;have hs1:=hb1.size;clear hb1 hpl hin hr4 hrl hcut Ti;go_wp2_with fail
  go_loopw [26] (fun i wr=>∃k:Nat,k<=3/\i= .int .i64 k/\aiT w1 [r0,r1,r2,r3] [.slice A0 k0 c0,.slice A1 k1 c1,.slice A2 k2 c2,.slice A3 k3 c3] k wr) (fun i _=>3 - (intOf i).toNat)
  case atStart=>exact⟨0,by omega,rfl,HST.out⟩
  case round=>
   obtain⟨k,hk,rfl,hst⟩:=hrel;by_cases hlt:k<3
   ·obtain⟨hs3,l3,b1,b2,hin,hb,hj⟩:=hst;obtain⟨r,hrk⟩:∃r,[r0,r1,r2,r3][k]? =some r:=⟨_,ako (by simp;omega)⟩
    obtain⟨Ar,kr,cr,hvk,hrr,hkc⟩:=hin.2 k r hrk;have q1:wr.cell? ⟨w1.heap.size,k,none⟩=some (.slice Ar kr cr):=(b1.cell k).trans (by simpa using hvk);have z1:=b1.lt;have z2:=b2.lt;have hk4:(k:Int)<4:=by omega
    have hk3:(k:Int)<3:=by omega
    have hkr:kr=r.length:=hrr.rd.aiE.symm;have hrm:=yR.out r (akt hrk);have ae9:=Kw.out;have hset:=hd0 (MK wr r wr.heap.size Ar kr cr hrr.rd (nr _) (by omega));have aeg:Hid (aiT w1 [r0,r1,r2,r3] [.slice A0 k0 c0,.slice A1 k1 c1,.slice A2 k2 c2,.slice A3 k3 c3] k wr):=⟨hs3,l3,b1,b2,hin,hb,hj⟩
    have hold:∃u,wr.cell? ⟨w1.heap.size+1,k,none⟩=some u/\Hid (∀w2,Below wr.heap.size wr w2->w2.cell? ⟨w1.heap.size+1,k,none⟩=some u/\w2.frozen? ⟨w1.heap.size+1,k,none⟩=false/\w1.heap.size+1<w2.heap.size):=by
     obtain⟨u,hu⟩:∃u,hs3[k]? =some u:=⟨_,ako (by omega)⟩
     refine⟨u,(b2.cell k).trans (by simpa using hu),fun w2 hb2=> ?_⟩;have b2':=b2.keep (hb2.block _ b2.lt);exact⟨(b2'.cell k).trans (by simpa using hu),b2'.frozen k,b2'.lt⟩
    obtain⟨u,qu,hold⟩:=hold;have Hb:=hd0 hb;clear b1 b2 hin hb hj l3 hrr hkr hrm ae9 hvk;cases hsl:iU r with
    |none=>
     have HR:Hid (ed gl s l= .error 22):=RY gl s Hs.out Yj.out (by
      have h3:k=0\/k=1\/k=2:=by omega
      rcases h3 with rfl|rfl|rfl
      ·cases hrk;exact .inl (by rw[lT,hsl];rfl)
      ·cases hrk;exact .inr (.inl (by rw[lT,hsl];rfl))
      cases hrk;exact .inr (.inr (by rw[lT,hsl];rfl)))
     have hs2:∀e w',gJ dW CS wr r e w'->e= .returned (.tuple #[.slice none 0 0,.bool false])/\Below wr.heap.size wr w':=fun e w' h=>by unfold gJ at h;rw[hsl] at h;exact h
     have HS2:=hd0 hs2;clear hs2 hsl hrk;go_wp2_with fail
     refine hset.out.mono ?_;rintro e w2 hpost;obtain⟨rfl,hb2⟩:=HS2.out _ _ hpost;obtain⟨y1,y2,y3⟩:=hold.out w2 hb2;have HB:Hid (Below Bd w (w2.setCell ⟨w1.heap.size+1,k,none⟩ (.slice none 0 0))):=(((Hb1.out.trans (Hb.out.mono Hb1.out.size)).trans (hb2.mono (by omega))).setCell (by simp;omega) _).mono hB;clear hpost hb2 hold;go_wp2_with fail
     go_ret
     exact ahS.bad HR.out HB.out
    |some S=>
     have hs2:∀e w',gJ dW CS wr r e w'->∃v,e= .returned (.tuple #[v,.bool true])/\uq dW CS wr w' S v:=fun e w' h=>by unfold gJ at h;rw[hsl] at h;exact h
     have HS2:=hd0 hs2;have vJ:Hid (∀w2 v,uq dW CS wr w2 S v->aiT w1 [r0,r1,r2,r3] [.slice A0 k0 c0,.slice A1 k1 c1,.slice A2 k2 c2,.slice A3 k3 c3] (k+1) (w2.setCell ⟨w1.heap.size+1,k,none⟩ v)):=fun w2 v hret=>aeg.out.next hlt hrk hsl hret
     clear hs2 hsl hrk;go_wp2_with fail
     refine hset.out.mono ?_;rintro e w2 hpost;obtain⟨v,rfl,hret⟩:=HS2.out _ _ hpost;have uD:=hd0 (vJ.out w2 v hret);obtain⟨A9,c9,h9,rfl,-,-,hb2⟩:=hret;obtain⟨y1,y2,y3⟩:=hold.out w2 hb2;clear hpost hb2 hold vJ;go_wp2_with fail
     go_roundw
     case rel=>exact⟨k+1,by omega,by simp,uD.out⟩
     case measure=>simp[intOf];omega
   obtain rfl:k=3:=by omega
   obtain⟨hb3,S0,S1,S2,e0,e1,e2,B0,B1,B2,d0,d1,d2,h0,h1,h2,hT3⟩:=hst.three;have HT3:=hd0 hT3;have HS0:Hid (eG (af r0)=some (aJ S0)):=by show _=_;rw[lT,e0];rfl
   have Tn:Hid (eG (af r1)=some (aJ S1)):=by show _=_;rw[lT,e1];rfl
   have HS2:Hid (eG (af r2)=some (aJ S2)):=by show _=_;rw[lT,e2];rfl
   have HE:=hd0 (And.intro (uk e0) (And.intro (uk e1) (uk e2)));have Hb3:=hd0 (hb3.mono hs1);have HB3:Hid (Below w.heap.size w wr):=Hb1.out.trans Hb3.out;have z3:=hb3.size;have kd:wr.cell? ⟨G',q,none⟩=some (.int .i64 lk.kind):=((aj HB3.out).1 _ _ hpb).trans kq;have zG:G'<wr.heap.size:=by omega
   clear hst e0 e1 e2 hT3 hb3 hsub HST kq
   go_upto_region 12 with fail
   go_cut [11] from 18 to 135 (fun s11 wx=>s11= .bool (qL lk.kind)/\wr=wx)
   case first=>
    by_cases Ez:lk.kind=1
    ·have hb:Hid (qL lk.kind=true):=by show _=_;rw[Ez];rfl
     have e1:(lk.kind==1)=true:=by simp[Ez]
     clear Ez;go_wp2_with fail
     go_meet
     exact⟨by rw[hb.out],rfl⟩
    have e1:(lk.kind==1)=false:=by simpa using Ez
    have hb:Hid (qL lk.kind=(lk.kind==5)):=by show _=_;unfold qL;rw[e1];rfl
    clear Ez;go_wp2_with fail
    go_meet
    exact⟨by rw[hb.out],rfl⟩
   case rest=>
    obtain⟨rfl,hwx⟩:=hcut;subst hwx;have m1:wr.cell? ⟨w1.heap.size+1,1,none⟩=some (.slice B1 S1.length d1):=HT3.out.wrt.cell 1;have x3:wr.cell? ⟨w1.heap.size,3,none⟩=some (.slice A3 k3 c3):=by obtain⟨a,b,c,h⟩:=HT3.out.parts;exact h.cell 3
    have zP:w1.heap.size+1<wr.heap.size:=HT3.out.wrt.lt;have hk3:k3=r3.length:=HT3.out.rd.rd.aiE.symm;have RU:k3<=1000000000:=by have h1:=yR.out r3 (by simp);have h2:=Kw.out;omega
    have Qu:∀x:WIn (fun v=>Below wr.heap.size wr v),Calls Tryz.prog 135 #[.int .i64 lk.kind,.slice A3 k3 c3] x.w fun e w''=>e= .returned (.bool (dY lk.kind (af r3)))/\∃y:WIn (fun v=>Below wr.heap.size wr v),w''=y.w:=fun x=>(Vs x.w lk.kind A3 k3 c3 r3 (HT3.out.rd.below x.ok) OM.out RU).mono fun e w'' ⟨h1,h2⟩=>⟨h1,⟨⟨w'',x.ok.trans (h2.mono x.ok.size)⟩,rfl⟩⟩
    have kdX:∀x:WIn (fun v=>Below wr.heap.size wr v),x.w.cell? ⟨G',q,none⟩=some (.int .i64 lk.kind):=fun x=>AZ x.ok kd
    have m1X:∀x:WIn (fun v=>Below wr.heap.size wr v),x.w.cell? ⟨w1.heap.size+1,1,none⟩=some (.slice B1 S1.length d1):=fun x=>AZ x.ok m1
    have x3X:∀x:WIn (fun v=>Below wr.heap.size wr v),x.w.cell? ⟨w1.heap.size,3,none⟩=some (.slice A3 k3 c3):=fun x=>AZ x.ok x3
    clear hk3;generalize harB:dY lk.kind (af r3)=ab at*
    generalize UV:qL lk.kind=ob at*
    have RJ:=hd0 harB;have UR:=hd0 UV;clear harB UV
    go_upto_region 13 with fail
    go_cut [69] from 18 to 135 (fun s69 wx=>s69= .bool (ob && S1.length !=1|| !ab)/\Below wr.heap.size wr wx)
    case first=>
     cases ob with
     |true=>
      by_cases hs1l:S1.length=1
      ·have e1:((S1.length:Int) !=1)=false:=by simp[hs1l]
       have e2:Hid ((S1.length !=1)=false):=hd0 (by simp[hs1l]);clear hs1l;go_wp2_with fail
       refine bP (fun v=>Below wr.heap.size wr v) (by kernel_rfl) (by kernel_rfl) ((akl wr.heap.size wr).drew) ?_;have bK:Nonempty (WIn (fun v=>Below wr.heap.size wr v)):=⟨⟨_,((akl wr.heap.size wr).drew)⟩⟩
       repeat(go_big_quiet_step (exact Qu _))
       refine wpQuiet_nil ?_;intro _ hw';obtain⟨xq,hw''⟩:=hw';subst hw'';go_wp2
       go_meet
       exact⟨by rw[e2.out];simp,xq.ok⟩
      have e1:((S1.length:Int) !=1)=true:=by simp;omega
      have e2:Hid ((S1.length !=1)=true):=hd0 (by simp;omega);clear hs1l;go_wp2_with fail
      go_quiet (fail)
      go_wp2
      go_meet
      exact⟨by rw[e2.out];simp,below_drewN (akl _ _) _⟩
     |false=>
      go_wp2_with fail
      refine bP (fun v=>Below wr.heap.size wr v) (by kernel_rfl) (by kernel_rfl) ((akl wr.heap.size wr).drew) ?_;have bK:Nonempty (WIn (fun v=>Below wr.heap.size wr v)):=⟨⟨_,((akl wr.heap.size wr).drew)⟩⟩
      repeat(go_big_quiet_step (exact Qu _))
      refine wpQuiet_nil ?_;intro _ hw';obtain⟨xq,hw''⟩:=hw';subst hw'';go_wp2
      go_meet
      exact⟨by simp,xq.ok⟩
    case rest=>
     obtain⟨rfl,hbx⟩:=hcut;cases hbad:(ob && S1.length !=1|| !ab) with
     |true=>
      have HR:Hid (ed gl s l= .error 22):=Vb gl s Hs.out Yj.out HS0.out Tn.out HS2.out (by rw[UR.out,RJ.out,sJ];exact hbad);have HB:=hd0 ((HB3.out.trans (hbx.mono HB3.out.size)).mono hB);clear hbad hbx;go_wp2_with fail
      go_ret
      exact ahS.bad HR.out HB.out
     |false=>
      have HT4:=hd0 (HT3.out.below hbx);have HB4:Hid (Below w.heap.size w wc):=HB3.out.trans (hbx.mono HB3.out.size);have kd4:=AZ hbx kd;have z4:=hbx.size;have hle:S0.length<=1000000000/\S1.length<=1000000000/\S2.length<=1000000000:=by obtain⟨⟨g0,-⟩,⟨g1,-⟩,⟨g2,-⟩⟩:=HE.out;have f0:=yR.out r0 (by simp);have f1:=yR.out r1 (by simp);have f2:=yR.out r2 (by simp);have hd:=Kw.out;omega
      have Kr:=hd0 hle;have YM:Hid ((∀r∈S0,r.length<=1000000000)/\(∀r∈S1,r.length<=1000000000)/\(∀r∈S2,r.length<=1000000000)):=by obtain⟨⟨-,g0⟩,⟨-,g1⟩,⟨-,g2⟩⟩:=HE.out;have f0:=yR.out r0 (by simp);have f1:=yR.out r1 (by simp);have f2:=yR.out r2 (by simp);have hd:=Kw.out;exact⟨fun r hr=>by have:=g0 r hr;omega,fun r hr=>by have:=g1 r hr;omega,fun r hr=>by have:=g2 r hr;omega⟩
      have JG:=hd0 (fun er l=>Oy gl s.cls HP.out.glI HP.out.ajW er [] (by simp) l);clear kd m1 x3 kdX m1X x3X Qu hbx hle;go_wp2_with fail
      refine(fZ wc p).mono ?_;rintro e w5 ⟨rfl,nC,hb5⟩;have iD:Hid (Below w.heap.size w w5):=HB4.out.trans (hb5.mono HB4.out.size);have Vf:=HT4.out.below hb5;have Uk:=(HP.out.below iD.out).at;have z5:=hb5.size;have m0:w5.cell? ⟨w1.heap.size+1,0,none⟩=some (.slice B0 S0.length d0):=Vf.wrt.cell 0;have m1:w5.cell? ⟨w1.heap.size+1,1,none⟩=some (.slice B1 S1.length d1):=Vf.wrt.cell 1;have m2:w5.cell? ⟨w1.heap.size+1,2,none⟩=some (.slice B2 S2.length d2):=Vf.wrt.cell 2;have Qo:Hid (∀W er B n d S h,Rdr W wc.heap.size p er->PAt W p gm cm gl s.cls->RdT W CS B n 1 h->RowsIn dW W h S->n<=1000000000->(∀r∈S,r.length<=1000000000)->Calls Tryz.prog 136 #[.pointer (some ⟨wc.heap.size,0,none⟩),.slice B n d] W (fun e w'=>∃v,e= .returned v/\ai0 W wc.heap.size p (aI gl s.cls er (aJ S)).1 n (aI gl s.cls er (aJ S)).2 v w')):=fun W er B n d S h g1 g2 g3 g4 g5 g6=>rows_ok W wc.heap.size p gm cm gl s.cls er B n d S h g1 g2 g3 g4 g5 g6 JG.out
      have OJ:=hd0 nC;have Bl:=hd0 Vf;have TG:=hd0 Uk;have Hb5:=hd0 hb5;clear nC Vf Uk hb5;go_wp2_with fail
      go_region_held3 (fun w'=>w'.cell? ⟨w1.heap.size+1,0,none⟩=some (.slice B0 S0.length d0)/\w'.cell? ⟨w1.heap.size+1,1,none⟩=some (.slice B1 S1.length d1)/\w'.cell? ⟨w1.heap.size+1,2,none⟩=some (.slice B2 S2.length d2))
       (first
        |exact⟨Dc.out.wrt.cell 0,Dc.out.wrt.cell 1,Dc.out.wrt.cell 2⟩
        |exact⟨sQ.out.wrt.cell 0,sQ.out.wrt.cell 1,sQ.out.wrt.cell 2⟩
        |exact⟨vS.out.wrt.cell 0,vS.out.wrt.cell 1,vS.out.wrt.cell 2⟩
        |exact⟨m0,m1,m2⟩
        |go_keep)
       (first
        |(go_at_call 136;refine(Qo.out w7 _ _ _ _ S2 h2 TZ.out HA7.out sQ.out.q2 sQ.out.i2 Kr.out.2.2 YM.out.2.2).mono ?_;rintro e w8 ⟨v8,rfl,A8,c8,hs8,rfl,ho8,hf8,hr8,Es⟩;have Dc:=hd0 (sQ.out.reader TZ.out Es);have HO8:=hd0 ho8;have HF8:=hd0 hf8;have Hr8:=hd0 hr8;have Yw:=hd0 Es;clear ho8 hf8 hr8 Es)
        |(go_at_call 136;refine(Qo.out w6 _ _ _ _ S1 h1 TD.out HA6.out vS.out.q1 vS.out.i1 Kr.out.2.1 YM.out.2.1).mono ?_;rintro e w7 ⟨v7,rfl,A7,c7,hs7,rfl,ho7,TK,hr7,EP⟩;have sQ:=hd0 (vS.out.reader TD.out EP);have HA7:=hd0 (HA6.out.reader TD.out EP);have HO7:=hd0 ho7;have yK:=hd0 TK;have TZ:=hd0 hr7;have Hg7:=hd0 EP;clear ho7 TK hr7 EP)
        |(go_at_call 136;refine(Qo.out w5.drew _ _ _ _ S0 h0 (by exact OJ.out) (by exact(TG.out.keep (w':=w5.drew) (fun _ _ _ _ _=>rfl) (fun _ _ _ _=>rfl))) (by exact Bl.out.q0.below (akl _ w5).drew) (by exact Bl.out.i0.below (akl _ w5).drew) Kr.out.1 YM.out.1).mono ?_;rintro e w6 ⟨v6,rfl,A6,c6,hs6,rfl,ho6,hf6,hr6,GM⟩;have AP:w5.grownBy w6 (some wc.heap.size):=⟨GM.os,GM.tape,GM.output,GM.size,GM.block⟩;have vS:=hd0 (Bl.out.reader OJ.out AP);have HA6:=hd0 (TG.out.reader OJ.out AP);have HO6:=hd0 ho6;have HF6:=hd0 hf6;have TD:=hd0 hr6;have Hg6:=hd0 AP;clear ho6 hf6 hr6 AP GM))
      have aaP:Hid (aiq w5.drew.heap.size A6 S0.length hs6 (aI gl s.cls 0 (aJ S0)).2 w8):=((aiq.mk' HO6.out HF6.out).reader TD.out Hg7.out).reader TZ.out Yw.out;have WH:Hid (aiq w6.heap.size A7 S1.length hs7 (aI gl s.cls (aI gl s.cls 0 (aJ S0)).1 (aJ S1)).2 w8):=(aiq.mk' HO7.out yK.out).reader TZ.out Yw.out;have abB:Hid (aiq w7.heap.size A8 S2.length hs8 (aI gl s.cls (aI gl s.cls (aI gl s.cls 0 (aJ S0)).1 (aJ S1)).1 (aJ S2)).2 w8):=aiq.mk' HO8.out HF8.out;have iq:w.heap.size<=wc.heap.size:=by omega
      have lD:Hid (Below w.heap.size w w8):=aU (aU (aU iD.out Hg6.out iq) Hg7.out iq) Yw.out iq;have HLn:Hid (∀er l,∀r∈(aI gl s.cls er l).2,r.length<=1000000000):=fun er l=>Dk gl s.cls (fun r=>r.length<=1000000000) (fun er l=>nt (Zd gl s.cls HP.out.akh er [] (by simp) l) (by omega)) er l
      have YC:Hid (∀er l,∀r∈(aI gl s.cls er l).2,∀x∈r,I64 x):=fun er l=>Dk gl s.cls (fun r=>∀x∈r,I64 x) (fun er l=>JG.out er l) er l
      have hl0:(aI gl s.cls 0 (aJ S0)).2.length=S0.length:=by rw[wB,sJ]
      have hl1:(aI gl s.cls (aI gl s.cls 0 (aJ S0)).1 (aJ S1)).2.length=S1.length:=by rw[wB,sJ]
      have hl2:(aI gl s.cls (aI gl s.cls (aI gl s.cls 0 (aJ S0)).1 (aJ S1)).1 (aJ S2)).2.length=S2.length:=by rw[wB,sJ]
      have Md:=hd0 (And.intro hl0 (And.intro hl1 hl2));have H0L:=HLn.out 0 (aJ S0);have H0I:=YC.out 0 (aJ S0);have H1L:=HLn.out (aI gl s.cls 0 (aJ S0)).1 (aJ S1);have H1I:=YC.out (aI gl s.cls 0 (aJ S0)).1 (aJ S1);have H2L:=HLn.out (aI gl s.cls (aI gl s.cls 0 (aJ S0)).1 (aJ S1)).1 (aJ S2);have H2I:=YC.out (aI gl s.cls (aI gl s.cls 0 (aJ S0)).1 (aJ S1)).1 (aJ S2);have HRR:=Tt gl s Hs.out Yj.out HS0.out Tn.out HS2.out;clear hl0 hl1 hl2;have aaV:=hd0 HRR;clear HRR;generalize hq0:aI gl s.cls 0 (aJ S0)=y0 at*
      generalize hq1:aI gl s.cls y0.1 (aJ S1)=y1 at*
      generalize hq2:aI gl s.cls y1.1 (aJ S2)=y2 at*
      have Hq0:=hd0 hq0;have Hq1:=hd0 hq1;have Hq2:=hd0 hq2;clear hq0 hq1 hq2;have U0:=hd0 (And.intro H0L (And.intro H1L H2L));have YD:=hd0 (And.intro H0I (And.intro H1I H2I));clear H0L H1L H2L H0I H1I H2I Qo TG HA6 HA7 HO6 HO7 HO8 HF6 yK HF8 OJ TD TZ Bl vS sQ Hb5 m0 m1 m2;have YI:=hd0 (aaP.out.sets (c:=c6) Kr.out.1 U0.out.1 YD.out.1);go_wp2_with fail
      refine YI.out.mono ?_;rintro e w9 ⟨v9,rfl,A9,c9,hs9,rfl,di,O6,aY⟩;have YG:=hd0 ((WH.out.below aY).sets (c:=c7) Kr.out.2.1 U0.out.2.1 YD.out.2.1);go_wp2_with fail
      refine YG.out.mono ?_;rintro e w10 ⟨v10,rfl,tJ,c10,hs10,rfl,JS,aat,lL⟩;have Ya:=hd0 (((abB.out.below aY).below lL).sets (c:=c8) Kr.out.2.2 U0.out.2.2 YD.out.2.2);go_wp2_with fail
      refine Ya.out.mono ?_;rintro e fK ⟨v11,rfl,KX,c11,hs11,rfl,acr,abY,gy⟩;have hab:ab=true:=by
       cases ab with
       |true=>rfl
       |false=>rw[Bool.not_false,Bool.or_true] at hbad;cases hbad
      have hone:¬((lk.kind=1\/lk.kind=5)/\(aJ S1).length≠1):=by
       rintro⟨g1,g2⟩;have h1:qL lk.kind=true:=by unfold qL;rcases g1 with g|g<;>rw[g]<;>rfl
       have h2:ob=true:=by rw[<-UR.out,h1]
       rw[sJ] at g2;rw[h2,hab] at hbad;simp at hbad;exact g2 hbad
      have hRR:=aaV.out hone (by rw[RJ.out,hab]);have Kt:Hid (ed gl s l=if jU gl lk.kind y2.1 (af r3)≠0 then .error (jU gl lk.kind y2.1 (af r3)) else xB s lk.kind y1.2 (cZ gl lk.kind y0.2 y1.2 y2.2 (af r3))):=by
       show _=_
       first
        |exact hRR
        |(rw[Hq1.out,Hq2.out] at hRR;exact hRR)
        |(subst_vars;exact hRR)
        |(rw[<-Hq2.out,<-Hq1.out];exact hRR)
      have s8:=lD.out.size;have qG:Hid (Below w.heap.size w fK):=((lD.out.trans (aY.mono s8)).trans (lL.mono (nt s8 aY.size))).trans (gy.mono (nt s8 (nt aY.size lL.size)));have s11:=qG.out.size;have vZ:=hd0 (((Dc.out.below aY).below lL).below gy);have aaN:=hd0 (((Hr8.out.below aY).below lL).below gy);have HO9:=hd0 (own_below (own_below di lL) gy);have Xu:=hd0 (own_below JS gy);have aa5:=hd0 acr;have HF9:Hid (Fl ahV 1 fK (IB w8.heap.size fK) hs9 (y0.2.map setOf)):=(O6.ib (aC lL none) (fun g e=>by cases e)).ib (aC gy none) (fun g e=>by cases e);have WM:Hid (Fl ahV 1 fK (IB w9.heap.size fK) hs10 (y1.2.map setOf)):=aat.ib (aC gy none) (fun g e=>by cases e);have abu:=hd0 abY;have s9:=aY.size;have s10:=lL.size;have Rj:=gy.size;have QT:=hd0 (((WH.out.below aY).below lL).below gy);have hgm:gm<w.heap.size:=HP.out.gmp.lt;have hpp:p<w.heap.size:=HP.out.par.lt;have HAB:Hid (dY lk.kind (af r3)=true):=by show _=_;rw[RJ.out,hab]
      have aa3:Hid (ob=true->S1.length=1):=fun e=>by
       rw[e,hab] at hbad;simpa using hbad
      clear hRR hone aY lL gy di JS acr O6 aat abY YI YG Ya aaP abB hab hbad;go_wp2_with fail
      obtain⟨kR,Ah⟩:∃kR,fK.alloc (.cells #[.slice A9 S0.length c9,.slice tJ S1.length c10,.slice KX S2.length c11,.slice none 0 0,.slice none 0 0,.int .i64 0] lK)=kR:=⟨_,rfl⟩
      rw[Ah];have hba:Below fK.heap.size fK kR:=Ah ▸ (akl _ _).alloc (nr _) _;have tX:=hd0 hba;have mD:Hid (Bk kR fK.heap.size lK #[.slice A9 S0.length c9,.slice tJ S1.length c10,.slice KX S2.length c11,.slice none 0 0,.slice none 0 0,.int .i64 0]):=Ah ▸ Bk.new _ _ _;have DV:=hd0 (vZ.out.below hba);have nM:=hd0 (aaN.out.below hba);have nN:Hid (Below w.heap.size w kR):=qG.out.trans (hba.mono s11);have XQ:kR.cell? ⟨G',q,none⟩=some (.int .i64 lk.kind):=AZ hba (((aj qG.out).1 _ _ hpb).trans KQ0.out);have Xj:kR.cell? ⟨w1.heap.size,3,none⟩=some (.slice A3 k3 c3):=by obtain⟨a,b,c,h⟩:=DV.out.parts;exact h.cell 3
      have s12:=hba.size;have X9:=mD.out.lt;have aaF:=hd0 ((HP.out.below nN.out).at.gm);have hout:=hd0 (out_ok kR.drew fK.heap.size wc.heap.size p gm gl lk.kind y2.1 (.slice A9 S0.length c9) (.slice tJ S1.length c10) (.slice KX S2.length c11) A3 k3 c3 r3 (by exact mD.out) (by exact nM.out) (aaF.out.below (akl _ kR).drew) (by show p<kR.heap.size;omega) (by omega) (by omega) (by omega) (by omega) (by exact DV.out.rd.below (akl _ kR).drew) OM.out RU HAB.out y0.2 y1.2 y2.2);have zq1:w1.heap.size<fK.heap.size:=by obtain⟨a,b,c,h⟩:=vZ.out.parts;exact h.lt
      have zq2:w1.heap.size<wc.heap.size:=by obtain⟨a,b,c,h⟩:=HT4.out.parts;exact h.lt
      clear hba Ah;go_wp2_with fail
      try rw[Ah]
      go_region_held3 (fun w'=>w'.cell? ⟨G',q,none⟩=some (.int .i64 lk.kind)/\w'.cell? ⟨w1.heap.size,3,none⟩=some (.slice A3 k3 c3))
       (first
        |exact⟨XQ,Xj⟩
        |exact⟨Vg,Us⟩
        |go_keep)
       (first
        |(go_at_call 138;refine hout.out.mono ?_;rintro e oM ⟨rfl,hor⟩;have Vg:oM.cell? ⟨G',q,none⟩=some (.int .i64 lk.kind):=(World.cell?_of_block (a:=⟨G',q,none⟩) (hor.two.block G' (by show G'<kR.heap.size;omega) (by omega) (by omega))).trans XQ;have Us:oM.cell? ⟨w1.heap.size,3,none⟩=some (.slice A3 k3 c3):=(World.cell?_of_block (a:=⟨w1.heap.size,3,none⟩) (hor.two.block w1.heap.size (by show w1.heap.size<kR.heap.size;omega) (by omega) (by omega))).trans Xj;have HOR:=hd0 hor;clear hor))
      obtain⟨⟨Ao,co,Ac,cc,hbk,hoo,hoc⟩,hrd,htw⟩:=HOR.out;have KG:Below w.heap.size w oM:=Two.below (a:=wc.heap.size) (b:=fK.heap.size) (w:=kR.drew) ⟨nN.out.os,nN.out.tape,nN.out.output,nN.out.size,nN.out.block⟩ htw (by omega) (by omega);have k13:oM.cell? ⟨wc.heap.size,1,none⟩=some (.int .i64 (jU gl lk.kind y2.1 (af r3))):=hrd.cell 1;have Rh:wc.heap.size<oM.heap.size:=hrd.lt;have ng:=hd0 KG;have qf:=hd0 hbk;have HOO:=hd0 hoo;have HOC:=hd0 hoc;have acI:=hd0 hrd;have tV:=hd0 htw;clear KG hbk hoo hoc hrd htw HOR;generalize hge:jU gl lk.kind y2.1 (af r3)=er at*
      by_cases her:er=0
      ·subst her;have Lh:Hid (ed gl s l=xB s lk.kind y1.2 (cZ gl lk.kind y0.2 y1.2 y2.2 (af r3))):=by show _=_;rw[Kt.out,if_neg (by simp)]
       clear hge;cases ob with
       |false=>
        have PK:Hid (ed gl s l= .ok (jC s fun x=> {x with rules:=x.rules++[cZ gl lk.kind y0.2 y1.2 y2.2 (af r3)]})):=by
         show _=_;rw[Lh.out];unfold xB;have hno:¬(lk.kind=1\/lk.kind=5):=by intro g;have h9:=UR.out;unfold qL at h9;rcases g with g|g<;>rw[g] at h9<;>cases h9
         rw[if_neg hno]
        have aB:=HP.out.below ng.out;obtain⟨Uj,c14,hv⟩:=aB.slice (i:=14) (by decide);have hfew:=aB.few 14 (by decide);have hown:=aB.live.own 14 (by decide);rw[hv] at hown;have vC:oM.cell? ⟨G',q+2,none⟩=some (.slice Uj (rv 14).n c14):=by rw[<-hv];exact((aj ng.out).1 _ _ hpb).trans YA.out
        have tN:=qf.out.cell 0;have vK:=qf.out.cell 1;have yV:=qf.out.cell 2;have Bc:=qf.out.cell 3;have Et:=qf.out.cell 4;have EI:=qf.out.cell 5;simp only[List.getElem?_toArray,akz,akw] at tN vK yV Bc Et EI;have zp:G'<oM.heap.size:=aku hpb ng.out.size;have zc:=qf.out.lt;obtain⟨A5,c5,uF,hrun,di,aN,bz⟩:=iE UK 70 oM Bd _ c14 Uj _ #[.slice A9 S0.length c9,.slice tJ S1.length c10,.slice KX S2.length c11,.slice Ao (cZ gl lk.kind y0.2 y1.2 y2.2 (af r3)).out.length co,.slice Ac (cZ gl lk.kind y0.2 y1.2 y2.2 (af r3)).calls.length cc,.int .i64 (cZ gl lk.kind y0.2 y1.2 y2.2 (af r3)).x] rfl hown (by simp[Value.oneCell']) (by omega) aB.size;rw[<-hv] at aN bz;have bI:∃cur,Bk uF G' 72 cur/\cur[q+2]? =some (rv 14).v:=by obtain⟨cur,aY⟩:=tq.out;have h1:Bk uF G' 72 cur:=Bk.grown (aY.keep (ng.out.block G' hpb)) aN (aB.live.own 14 (by decide)) (by decide);exact⟨cur,h1,by rw[<-aY.cell];exact YA.out⟩
        obtain⟨Gi,bI,ru⟩:=bI;have x9:uF.cell? ⟨G',q+2,none⟩=some (rv 14).v:=(bI.cell _).trans ru;have y9:=bI.frozen (q+2);obtain⟨io,ic,ix⟩:=EE gl HP.out.glI lk.kind y0.2 y1.2 y2.2 (af r3);have mJ:=(akl kR.heap.size kR).drew;have L0:(y0.2.map setOf).length=S0.length:=by rw[aks];exact Md.out.1
        have L1:(y1.2.map setOf).length=S1.length:=by rw[aks];exact Md.out.2.1
        have L2:(y2.2.map setOf).length=S2.length:=by rw[aks];exact Md.out.2.2
        have q9:=rY tV.out (by exact nM.out) (by exact mD.out) (by decide) (by decide) (own_below (own_below HO9.out tX.out) mJ);have q10:=rY tV.out (by exact nM.out) (by exact mD.out) (by decide) (by decide) (own_below (own_below Xu.out tX.out) mJ);have q11:=rY tV.out (by exact nM.out) (by exact mD.out) (by decide) (by decide) (own_below (own_below aa5.out tX.out) mJ);have f9:=sN tV.out (by exact nM.out) (by exact mD.out) (by decide) (by decide) ((HF9.out.ib (aC tX.out none) (fun g e=>by cases e)).ib (aC mJ none) (fun g e=>by cases e));have f10:=sN tV.out (by exact nM.out) (by exact mD.out) (by decide) (by decide) ((WM.out.ib (aC tX.out none) (fun g e=>by cases e)).ib (aC mJ none) (fun g e=>by cases e));have f11:=sN tV.out (by exact nM.out) (by exact mD.out) (by decide) (by decide) ((abu.out.ib (aC tX.out none) (fun g e=>by cases e)).ib (aC mJ none) (fun g e=>by cases e));rw[<-L0] at q9;rw[<-L1] at q10;rw[<-L2] at q11;have hdr:kR.drew.heap.size=kR.heap.size:=rfl;have hrel:=JZ HP.out q9 f9 q10 f10 q11 f11 HOO.out HOC.out io ic ix (by omega) (by omega) (by omega) (by omega) (by omega) (by omega) (by omega) (by omega);rw[L0,L1,L2] at hrel;have bG:=hd0 (PSt.ajh aB Hs.out H0.out (y:=cZ gl lk.kind y0.2 y1.2 y2.2 (af r3)) (K':=K+n) aN di bz (Fl.one (R:=aig) hrel rfl) (by omega));rw[<-Hq.out] at bG;have HQ:=hd0 (KQ.below (cm:=cm) ng.out);have rF:=hd0 (ng.out.mono hB);have J4:Hid (ed gl s l= .ok {s with f:= {s.f with ahP:=init++[{lk with rules:=lk.rules++[cZ gl lk.kind y0.2 y1.2 y2.2 (af r3)]}]}}):=by show _=_;rw[PK.out,ET s _ Hs.out]
        clear hown di bz bI ru q9 q10 q11 f9 f10 f11 hrel io ic ix L0 L1 L2 hdr mJ aN aB;go_wp2_with fail
        go_region
        all_goals
         go_wp2;go_ret
         obtain⟨rv',g1,g2,g3⟩:=bG.out;exact ahS.good J4.out (rF.out.trans g3) (HQ.out.trans g2) g1
       |true=>
        have hs1:=aa3.out rfl;obtain⟨gg,hgg⟩:∃gg,y1.2=[gg]:=by
         have h9:=Md.out.2.1;rw[hs1] at h9
         match y1.2,h9 with
         |[a],_=>exact⟨a,rfl⟩
        clear aa3;generalize hyy:y1.2=yy at*
        generalize hmm:S1.length=m1 at*
        subst hgg hs1;clear hyy hmm;have PK:Hid (ed gl s l=match dZ gg (cZ gl lk.kind y0.2 [gg] y2.2 (af r3)).out with
          | .error e=> .error e
          | .ok o=> .ok (jC s fun x=> {x with rules:=x.rules++[{cZ gl lk.kind y0.2 [gg] y2.2 (af r3) with out:=o}]})):=by
         show _=_;rw[Lh.out];unfold xB;have hyes:lk.kind=1\/lk.kind=5:=by have h9:=UR.out;unfold qL at h9;simpa using h9
         rw[if_pos hyes];rfl
        have mJ:=(akl kR.heap.size kR).drew;have hw1:aiq w6.heap.size A7 1 hs7 [gg] oM:=⟨tV.out.rdT (by exact nM.out) (by exact mD.out) (by decide) (by decide) ((QT.out.rd.below tX.out).below mJ),sN tV.out (by exact nM.out) (by exact mD.out) (by decide) (by decide) ((QT.out.fl.ib (aC tX.out none) (fun g e=>by cases e)).ib (aC mJ none) (fun g e=>by cases e))⟩
        have q10:=rY tV.out (by exact nM.out) (by exact mD.out) (by decide) (by decide) (own_below (own_below Xu.out tX.out) mJ);have f10:=sN tV.out (by exact nM.out) (by exact mD.out) (by decide) (by decide) ((WM.out.ib (aC tX.out none) (fun g e=>by cases e)).ib (aC mJ none) (fun g e=>by cases e));have hw2:=aiq.mk' q10 f10;obtain⟨b1,o1,A20,c20,rfl,zb1,g1,R1⟩:=hw1.first (by omega);obtain⟨b2,o2,A21,c21,rfl,zb2,g2,R2⟩:=hw2.first (by omega);have h1:=qf.out.cell 1;have h3:=qf.out.cell 3;have y3:=qf.out.frozen 3;simp only[List.getElem?_toArray,akz,akw] at h1 h3;have zc:=qf.out.lt;have hk3:=DV.out.rd.rd.aiE;have hol:(cZ gl lk.kind y0.2 [gg] y2.2 (af r3)).out.length<=1000000000:=nt (QQ _ _ _ _ _ _) (by rw[iF,hk3];exact RU);have hgl:gg.length<=1000000000:=U0.out.2.1 gg (by simp);have hsl:=nt (IL gg) hgl;obtain⟨io,ic,ix⟩:=EE gl HP.out.glI lk.kind y0.2 [gg] y2.2 (af r3);have R3:Rd oM oM.heap.size Ao (cZ gl lk.kind y0.2 [gg] y2.2 (af r3)).out.length 1 (aW (cZ gl lk.kind y0.2 [gg] y2.2 (af r3)).out):=(jf HOO.out).rd;have hso:=QX oM.drew A20 A21 Ao _ _ _ c20 c21 co gg (setOf gg) (cZ gl lk.kind y0.2 [gg] y2.2 (af r3)).out rfl (by exact R1) (by exact R2) (by exact R3) hgl hsl hol;have HIO:=hd0 io;have HIC:=hd0 ic;have HIX:=hd0 ix;clear io ic ix R1 R2 R3 hol hgl hsl hk3 hw1 hw2 q10 f10;generalize hro:(cZ gl lk.kind y0.2 [gg] y2.2 (af r3)).out=ro at*
        have HRO:=hd0 hro;clear hro;go_wp2_with fail
        have HSZ:=hd0 (And.intro s8 (And.intro s9 (And.intro s10 (And.intro s11 (And.intro Rj (And.intro s12 (And.intro X9 (And.intro iq Rh))))))));clear s8 s9 s10 Rj s12 X9 iq Rh z3 z4 z5 zG zP zq1 zq2 hgm hpp hs1 hnn hc kd4 XQ Xj Vg Us k13;clear HT3 HT4 HB4 iD lD Hg6 Hg7 Yw HLn YC JG aaV Hr8 Hq0 Hq1 Hq2 aaN Dc aaF WH QT hout HE HS0 Tn HS2 Yj yR ac4 EN Kw HL Hb1 Hb3 HB3 YD HAB Kt Lh vZ DV OM RU RJ U0 Kr HRO acI UR YM;have HSO:=hd0 hso;have XO:=hd0 (akl oM.heap.size oM).drew;clear hso;go_cut [17] from 109 to 122 (fun s17 wx=>∃jP xe n30 xk code,s17= .int .i64 code/\wx=jP.setCell ⟨fK.heap.size,3,none⟩ (.slice xe n30 xk)/\aiU oM.drew (dZ gg ro) (.returned (.tuple #[.slice xe n30 xk,.int .i64 code])) jP)
        case first=>
         go_region_with (go_at_call 139;refine HSO.out.mono ?_;rintro e jP hpost;obtain⟨xe,n30,xk,code,rfl,hpost⟩:=hpost.shape;have lS:=hpost.1;have b14:=qf.out.keep (lS.block _ zc);have x9:=(b14.cell 3).trans rfl;have y9:=b14.frozen 3;have HPO:=hd0 hpost;clear lS b14 hpost)
         all_goals
          go_wp2_with fail
          go_meet
          exact⟨jP,xe,n30,xk,code,rfl,rfl,HPO.out⟩
        case rest=>
        obtain⟨jP,xe,n30,xk,code,rfl,rfl,hpost⟩:=hcut;have b14:Bk jP fK.heap.size lK #[.slice A9 S0.length c9,.slice (some ⟨b2,o2,none⟩) 1 c10,.slice KX S2.length c11,.slice Ao ro.length co,.slice Ac (cZ gl lk.kind y0.2 [gg] y2.2 (af r3)).calls.length cc,.int .i64 (cZ gl lk.kind y0.2 [gg] y2.2 (af r3)).x]:=qf.out.keep (hpost.1.block _ zc);have YB:=hd0 b14;have wu:=hd0 hpost.1;clear b14 g1 g2 h1 h3 y3;cases hsort:dZ gg ro with
        |error e9=>
         rw[hsort] at hpost;have he9:(code !=0)=true:=by have:=hpost.2;simp only[Ending.returned.injEq,Value.tuple.injEq] at this;simp only[Array.mk.injEq,alf,Value.int.injEq,true_and,and_true] at this;have h9:code=e9:=this.2;subst h9;rcases NR hsort with rfl|rfl<;>rfl
         have hce:code=e9:=by have:=hpost.2;simp only[Ending.returned.injEq,Value.tuple.injEq,Array.mk.injEq,alf,Value.int.injEq,true_and,and_true] at this;exact this.2
         have J4:Hid (ed gl s l= .error code):=by show _=_;rw[PK.out,hsort,hce]
         clear hpost hsort hce;go_wp2_with fail
         go_ret
         exact ahS.bad J4.out (((ng.out.trans (XO.out.mono ng.out.size)).trans (wu.out.mono ng.out.size)).setCell (by obtain⟨s8,s9,s10,s11,-⟩:=HSZ.out;omega) _|>.mono hB)
        |ok o9=>
         rw[hsort] at hpost;obtain⟨A31,c31,e31,Gy⟩:=hpost.2;have h31:xe=A31/\n30=o9.length/\xk=c31/\code=0:=by simp only[Ending.returned.injEq,Value.tuple.injEq] at e31;simpa [and_assoc] using e31
         obtain⟨rfl,rfl,rfl,rfl⟩:=h31;have acn:=hd0 Gy;have afa:=hd0 (NG hsort HIO.out);have J4:Hid (ed gl s l= .ok {s with f:= {s.f with ahP:=init++[{lk with rules:=lk.rules++[{cZ gl lk.kind y0.2 [gg] y2.2 (af r3) with out:=o9}]}]}}):=by show _=_;rw[PK.out,hsort];simp only;rw[ET s _ Hs.out]
         have PY:Bk (jP.setCell ⟨fK.heap.size,3,none⟩ (.slice xe o9.length xk)) fK.heap.size lK #[.slice A9 S0.length c9,.slice (some ⟨b2,o2,none⟩) 1 c10,.slice KX S2.length c11,.slice xe o9.length xk,.slice Ac (cZ gl lk.kind y0.2 [gg] y2.2 (af r3)).calls.length cc,.int .i64 (cZ gl lk.kind y0.2 [gg] y2.2 (af r3)).x]:=YB.out.set 3 _;have nI:oM.grownBy (jP.setCell ⟨fK.heap.size,3,none⟩ (.slice xe o9.length xk)) (some fK.heap.size):=bZ (aC XO.out _) (bZ (aC wu.out _) (dC jP _ _));have XJ:=acn.out.kept (dC jP ⟨fK.heap.size,3,none⟩ (.slice xe o9.length xk)) (bQ acn.out YB.out (by decide));have pM:Below w.heap.size w (jP.setCell ⟨fK.heap.size,3,none⟩ (.slice xe o9.length xk)):=((ng.out.trans (XO.out.mono ng.out.size)).trans (wu.out.mono ng.out.size)).setCell (by obtain⟨s8,s9,s10,s11,-⟩:=HSZ.out;omega) _;clear hpost hsort e31 Gy;obtain⟨uF,abC⟩:∃x,(jP.setCell ⟨fK.heap.size,3,none⟩ (.slice xe o9.length xk))=x:=⟨_,rfl⟩
         rw[abC] at PY nI XJ pM ⊢;clear abC;have xM:=hd0 PY;have tH:=hd0 pM;have aB:=HP.out.below tH.out;obtain⟨Uj,c14,hv⟩:=aB.slice (i:=14) (by decide);have hfew:=aB.few 14 (by decide);have hown:=aB.live.own 14 (by decide);rw[hv] at hown;have vC:uF.cell? ⟨G',q+2,none⟩=some (.slice Uj (rv 14).n c14):=by rw[<-hv];exact((aj tH.out).1 _ _ hpb).trans YA.out
         have tN:=xM.out.cell 0;have vK:=xM.out.cell 1;have yV:=xM.out.cell 2;have Bc:=xM.out.cell 3;have Et:=xM.out.cell 4;have EI:=xM.out.cell 5;simp only[List.getElem?_toArray,akz,akw] at tN vK yV Bc Et EI;have zp:G'<uF.heap.size:=aku hpb tH.out.size;have ahf:=xM.out.lt;obtain⟨A5,c5,w16,hrun,di,aN,bz⟩:=iE UK 70 uF Bd _ c14 Uj _ #[.slice A9 S0.length c9,.slice (some ⟨b2,o2,none⟩) 1 c10,.slice KX S2.length c11,.slice xe o9.length xk,.slice Ac (cZ gl lk.kind y0.2 [gg] y2.2 (af r3)).calls.length cc,.int .i64 (cZ gl lk.kind y0.2 [gg] y2.2 (af r3)).x] rfl hown (by simp[Value.oneCell']) (by omega) aB.size;rw[<-hv] at aN bz;have bI:∃cur,Bk w16 G' 72 cur/\cur[q+2]? =some (rv 14).v:=by obtain⟨cur,aY⟩:=tq.out;have h1:Bk w16 G' 72 cur:=Bk.grown (aY.keep (tH.out.block G' hpb)) aN (aB.live.own 14 (by decide)) (by decide);exact⟨cur,h1,by rw[<-aY.cell];exact YA.out⟩
         obtain⟨Gi,bI,ru⟩:=bI;have x9:w16.cell? ⟨G',q+2,none⟩=some (rv 14).v:=(bI.cell _).trans ru;have y9:=bI.frozen (q+2);have L0:(y0.2.map setOf).length=S0.length:=by rw[aks];exact Md.out.1
         have L1:([gg].map setOf).length=1:=by rw[aks];exact Md.out.2.1
         have L2:(y2.2.map setOf).length=S2.length:=by rw[aks];exact Md.out.2.2
         have q9:=rY tV.out (by exact nM.out) (by exact mD.out) (by decide) (by decide) (own_below (own_below HO9.out tX.out) mJ);have q10:=rY tV.out (by exact nM.out) (by exact mD.out) (by decide) (by decide) (own_below (own_below Xu.out tX.out) mJ);have q11:=rY tV.out (by exact nM.out) (by exact mD.out) (by decide) (by decide) (own_below (own_below aa5.out tX.out) mJ);have f9:=sN tV.out (by exact nM.out) (by exact mD.out) (by decide) (by decide) ((HF9.out.ib (aC tX.out none) (fun g e=>by cases e)).ib (aC mJ none) (fun g e=>by cases e));have f10:=sN tV.out (by exact nM.out) (by exact mD.out) (by decide) (by decide) ((WM.out.ib (aC tX.out none) (fun g e=>by cases e)).ib (aC mJ none) (fun g e=>by cases e));have f11:=sN tV.out (by exact nM.out) (by exact mD.out) (by decide) (by decide) ((abu.out.ib (aC tX.out none) (fun g e=>by cases e)).ib (aC mJ none) (fun g e=>by cases e));rw[<-L0] at q9;rw[<-L1] at q10;rw[<-L2] at q11;have q9':=q9.kept nI (bQ q9 qf.out (by decide));have abb:=q10.kept nI (bQ q10 qf.out (by decide));have aah:=q11.kept nI (bQ q11 qf.out (by decide));have f9':=f9.ib nI (fun g e=>by cases e;exact⟨_,_,qf.out,by decide⟩);have acl:=f10.ib nI (fun g e=>by cases e;exact⟨_,_,qf.out,by decide⟩);have f11':=f11.ib nI (fun g e=>by cases e;exact⟨_,_,qf.out,by decide⟩);have qc':=HOC.out.kept nI (bQ HOC.out qf.out (by decide));have hdr:kR.drew.heap.size=kR.heap.size:=rfl;have ado:oM.drew.heap.size=oM.heap.size:=rfl;have adF:=ng.out.size;obtain⟨s8,s9,s10,-,Rj,s12,X9,iq,Rh⟩:=HSZ.out;have hrel:=JZ HP.out q9' f9' abb acl aah f11' XJ qc' afa.out HIC.out HIX.out (by omega) (by omega) (by omega) (by omega) (by omega) (by omega) (by omega) (by omega);rw[L0,L1,L2] at hrel;have bG:=hd0 (PSt.ajh aB Hs.out H0.out (y:= {cZ gl lk.kind y0.2 [gg] y2.2 (af r3) with out:=o9}) (K':=K+n) aN di bz (Fl.one (R:=aig) hrel rfl) (by omega));rw[<-Hq.out] at bG;have HQ:=hd0 (KQ.below (cm:=cm) tH.out);have rF:=hd0 (tH.out.mono hB);clear s8 s9 s10 Rj s12 X9 iq Rh hown di bz bI ru q9 q10 q11 f9 f10 f11 q9' abb aah f9' acl f11' qc' XJ PY pM nI hrel L0 L1 L2 hdr ado adF aN aB;go_wp2_with fail
         go_region
         all_goals
          go_wp2;go_ret
          obtain⟨rv',g1,g2,g3⟩:=bG.out;exact ahS.good J4.out (rF.out.trans g3) (HQ.out.trans g2) g1
      have HR:Hid (ed gl s l= .error er):=by show _=_;rw[Kt.out,if_pos her]
      have e1:(er==0)=false:=by simpa using her
      have e2:(er !=0)=true:=by simpa using her
      clear hge her;go_wp2_with fail
      go_ret
      exact ahS.bad HR.out (ng.out.mono hB)
end Go.Proofs.YtkijckccfookeaaGreatDoor
