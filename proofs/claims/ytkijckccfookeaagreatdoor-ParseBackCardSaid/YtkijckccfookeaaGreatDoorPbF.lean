/- parse: a rule, the walk. -/
import Derived.Test.YtkijckccfookeaaGreatDoorV38
import Derived.Deep.DeepCutAuto
set_option linter.unusedVariables false
set_option linter.unusedSimpArgs false
set_option maxRecDepth 100000
set_option maxHeartbeats 32000000
namespace Go.Proofs.YtkijckccfookeaaGreatDoor
open Go.RowKit
attribute [-go_sem] Builtin.append_
structure Three (w1 wr:World)(r3:List P3)(A3:Option Addr)(k3 c3:Nat)(S0 S1 S2:List (List P3))(B0 B1 B2:Option Addr)(d0 d1 d2:Nat)(h0 h1 h2:List Value):Prop where
 parts:∃a b c,Bk wr w1.heap.size iU #[a,b,c,.slice A3 k3 c3]
 wrt:Bk wr (w1.heap.size+1) tWr #[.slice B0 S0.length d0,.slice B1 S1.length d1,.slice B2 S2.length d2]
 rd:RdT wr dX A3 k3 3 (dD r3)
 q0:RdT wr Ep B0 S0.length 1 h0
 q1:RdT wr Ep B1 S1.length 1 h1
 q2:RdT wr Ep B2 S2.length 1 h2
 i0:RowsIn dX wr h0 S0
 i1:RowsIn dX wr h1 S1
 i2:RowsIn dX wr h2 S2
theorem aoV.three {w1 wr:World}{r0 r1 r2 r3:List P3}{A0 A1 A2 A3:Option Addr}{k0 k1 k2 k3 c0 c1 c2 c3:Nat}(h:aoV w1 [r0,r1,r2,r3] [.slice A0 k0 c0,.slice A1 k1 c1,.slice A2 k2 c2,.slice A3 k3 c3] 3 wr):
  Below w1.heap.size w1 wr/\∃S0 S1 S2,jc r0=some S0/\jc r1=some S1/\jc r2=some S2/\∃B0 B1 B2 d0 d1 d2 h0 h1 h2,Three w1 wr r3 A3 k3 c3 S0 S1 S2 B0 B1 B2 d0 d1 d2 h0 h1 h2:=by
 obtain⟨hs,l3,b1,b2,hin,hb,hj⟩:=h;obtain⟨S0,B0,d0,g0,e0,f0,m0,n0⟩:=hj 0 r0 (by omega) rfl;obtain⟨S1,B1,d1,g1,e1,f1,m1,n1⟩:=hj 1 r1 (by omega) rfl;obtain⟨S2,B2,d2,g2,e2,f2,m2,n2⟩:=hj 2 r2 (by omega) rfl;refine⟨hb,S0,S1,S2,e0,e1,e2,B0,B1,B2,d0,d1,d2,g0,g1,g2,⟨_,_,_,b1⟩,?_,?_,m0,m1,m2,n0,n1,n2⟩
 ·match hs,l3,b2,f0,f1,f2 with
  |[a,b,c],_,b2,f0,f1,f2=>cases f0;cases f1;cases f2;exact b2
 obtain⟨Ar,kr,cr,hv,hr,-⟩:=hin.2 3 r3 rfl;cases hv;exact hr
theorem Three.below {w1 wr w2:World}{r3:List P3}{A3:Option Addr}{k3 c3:Nat}{S0 S1 S2:List (List P3)}{B0 B1 B2:Option Addr}{d0 d1 d2:Nat}{h0 h1 h2:List Value}(h:Three w1 wr r3 A3 k3 c3 S0 S1 S2 B0 B1 B2 d0 d1 d2 h0 h1 h2)(hb:Below wr.heap.size wr w2):Three w1 w2 r3 A3 k3 c3 S0 S1 S2 B0 B1 B2 d0 d1 d2 h0 h1 h2:=by obtain⟨a,b,c,hp⟩:=h.parts;exact⟨⟨a,b,c,hp.keep (hb.block _ hp.lt)⟩,h.wrt.keep (hb.block _ h.wrt.lt),h.rd.below hb,h.q0.below hb,h.q1.below hb,h.q2.below hb,h.i0.below hb,h.i1.below hb,h.i2.below hb⟩
theorem Three.reader {w1 wr w2:World}{r3:List P3}{A3:Option Addr}{k3 c3:Nat}{S0 S1 S2:List (List P3)}{B0 B1 B2:Option Addr}{d0 d1 d2:Nat}{h0 h1 h2:List Value}{rb p:Nat}{er:Int}(h:Three w1 wr r3 A3 k3 c3 S0 S1 S2 B0 B1 B2 d0 d1 d2 h0 h1 h2)(hr:Rdr wr rb p er)(hg:wr.grownBy w2 (some rb)):Three w1 w2 r3 A3 k3 c3 S0 S1 S2 B0 B1 B2 d0 d1 d2 h0 h1 h2:=by
 obtain⟨a,b,c,hp⟩:=h.parts;have hx:∀(t:TypeId),t≠QA->∀g,some rb=some g->∃cur t',Bk wr g t' cur/\t≠t':=fun t ht g e=>by
  cases e;exact⟨_,_,hr,ht⟩
 have hb:∀(g:Nat) (t:TypeId) (cs:Array Value),Bk wr g t cs->t≠QA->Bk w2 g t cs:=fun g t cs hk ht=>Bk.kept2 hg hk (fun e=>by subst e;exact ht (bY hk hr).1)
 exact⟨⟨a,b,c,hb _ _ _ hp (by decide)⟩,hb _ _ _ h.wrt (by decide),h.rd.grown hg (hx _ (by decide)),h.q0.grown hg (hx _ (by decide)),h.q1.grown hg (hx _ (by decide)),h.q2.grown hg (hx _ (by decide)),h.i0.kept fun _ _ _ k=>k.grown hg (hx _ (by decide)),h.i1.kept fun _ _ _ k=>k.grown hg (hx _ (by decide)),h.i2.kept fun _ _ _ k=>k.grown hg (hx _ (by decide))⟩
def rZ (kd:Int):Bool:=kd==1||kd==5
theorem Zx (gl:Gl)(s:PS){l:List B}{init:List Lookup}{lk:Lookup}(hs:s.f.anM=init++[lk]){p0 p1 p2 p3:List B}(h:pR l=some [p0,p1,p2,p3]){T0 T1 T2:List (List B)}(h0:fD p0=some T0)(h1:fD p1=some T1)(h2:fD p2=some T2)(hbad:(rZ lk.kind && T1.length !=1|| !dZ lk.kind p3)=true):eF gl s l= .error 22:=by
 unfold eF;rw[hs,List.getLast?_append];simp only[List.getLast?_singleton,Option.some_or];rw[h];simp only;rw[h0,h1,h2];simp only;by_cases c1:(lk.kind=1\/lk.kind=5)/\T1.length≠1
 ·rw[if_pos c1]
 rw[if_neg c1,if_pos];cases ha:dZ lk.kind p3 with
 |false=>rfl
 |true=>rw[ha] at hbad;exfalso;apply c1;simp only[Bool.not_true,Bool.or_false,aqK,rZ,Bool.or_eq_true,beq_iff_eq,bne_iff_ne] at hbad;exact hbad
theorem Yf (n:Nat)(cur:List P3)(told:List (List P3))(ws:List P3)(rows:List (List P3))(h:dR n cur told ws=some rows):∀r∈rows,r∈told\/∀x∈r,x∈cur\/x∈ws:=by
 induction ws generalizing n cur told with
 |nil=>
  rw[dR] at h;split at h
  ·cases h;intro r hr;rcases aqp.1 hr with g|g
   ·exact .inl g
   simp only[aql] at g;subst g;exact .inr fun x hx=> .inl hx
  cases h
 |cons w r ih=>
  rw[dR] at h;split at h
  ·intro x hx;refine(ih n (cur++[w]) told h x hx).imp id fun g y hy=> ?_
   rcases g y hy with g|g
   ·rcases aqp.1 g with g|g
    ·exact .inl g
    simp only[aql] at g;exact .inr (by simp[g])
   exact .inr (by simp[g])
  split at h
  ·intro x hx;rcases ih (n+1) [] (told++[cur]) h x hx with g|g
   ·rcases aqp.1 g with g|g
    ·exact .inl g
    simp only[aql] at g;subst g;exact .inr fun y hy=> .inl hy
   refine .inr fun y hy=> ?_
   rcases g y hy with g|g
   ·simp at g
   exact .inr (by simp[g])
  cases h
theorem Vg {ws:List P3}{rows:List (List P3)}(h:kK ws=some rows):∀r∈rows,∀x∈r,x∈ws:=fun r hr x hx=>by
 rcases Yf 0 [] [] ws rows h r hr with g|g
 ·simp at g
 rcases g x hx with g|g
 ·simp at g
 exact g
theorem Di {w w':World}(hb:Below w.heap.size w w'){p:Addr}{v:Value}(h:w.cell? p=some v):w'.cell? p=some v:=(hb.cell (World.block_lt_of_cell? w p h)).trans h
theorem GK (gl:Gl)(hg:∀t n,gl.lookup t=some n->n<=1000000000)(kind:Int)(b i a:List (List Int))(p3:List B):(∀y∈(dA gl kind b i a p3).out,I64 y)/\(∀y∈(dA gl kind b i a p3).calls,I64 y.at'/\I64 y.lookup)/\I64 (dA gl kind b i a p3).x:=by
 unfold dA;simp only;refine⟨?_,?_,?_⟩
 ·split
  ·intro y hy;obtain⟨t,_,rfl⟩:=aqQ.1 hy;exact D8 hg t
  intro y hy;simp at hy
 ·split
  ·intro y hy;obtain⟨t,_,rfl⟩:=aqQ.1 hy;exact⟨dI _,dI _⟩
  intro y hy;simp at hy
 split
 ·exact dI _
 exact⟨by omega,by omega⟩
theorem uD (S:List (List P3)):(aX S).length=S.length:=by simp[aX]
theorem aoU.shape {w w':World}{r:Except Int (List Int)}{e:Ending}(h:aoU w r e w'):∃A n c,∃code:Int,e= .returned (.tuple #[.slice A n c,.int .i64 code])/\aoU w r (.returned (.tuple #[.slice A n c,.int .i64 code])) w':=by
 obtain⟨h1,h2⟩:=h;cases r with
 |error c=>exact⟨none,0,0,c,h2,h1,rfl⟩
 |ok o=>obtain⟨A,c,h3,h4⟩:=h2;exact⟨A,_,c,0,h3,h1,A,c,rfl,h4⟩
theorem V5 (gl:Gl)(kd:Int)(b i a:List (List Int))(p:List B):(dA gl kd b i a p).out.length<=p.length:=by unfold dA;simp only;split<;>simp
theorem TA {l nm:List Int}{e:Int}(h:eu l nm= .error e):e=24\/e=22:=by
 unfold eu at h;split at h
 ·injection h with h;exact .inl h.symm
 split at h
 ·injection h with h;exact .inr h.symm
 cases h
theorem RI {l nm o:List Int}(h:eu l nm= .ok o)(hn:∀x∈nm,I64 x):∀x∈o,I64 x:=by
 unfold eu at h;split at h
 ·cases h
 split at h
 ·cases h
 injection h with h
 subst h;intro x hx;rw[aqQ] at hx;obtain⟨g,-,rfl⟩:=hx;rw[List.getD_eq_getElem?_getD];cases hg:nm[l.idxOf g]? with
 |none=>exact⟨by decide,by decide⟩
 |some v=>exact hn v (aqt hg)
theorem Tj (w:World)(Bd p gm cm:Nat)(gl:Gl)(s:PS)(rv:Rows)(K:Nat)(A:Option Addr)(n c:Nat)(ws:List P3)(t:B)(l:List B)(hP:PSt w Bd p gm cm gl s rv K)(hL:aok w A n ws)(hT:ah ws=t::l)(hK:K<=10000000000)(hc:n<=c){init:List Lookup}{lk:Lookup}(hs:s.f.anM=init++[lk]){G n0 c9 q:Nat}(h0:(rv 2).v= .slice (some ⟨G,0,none⟩) n0 c9)(hq:q=init.length*3):
  Calls Tryz.prog 89 #[.pointer (some ⟨p,0,none⟩),.slice A n c,.pointer (some ⟨G,q,none⟩)] w (anQ w Bd p gm cm gl (K+n) (eF gl s l)):=by
 have hn:n=l.length+1:=by rw[<-hL.length];exact dG hT
 have hB:=hP.size;have hnn:=hL.few;have aft:=hL.length;obtain⟨A',hsub,hrd,hlen⟩:=hL.sub hc 1 1 rfl (by omega);have hrest:=jF hT;have HP:=hd0 hP;obtain⟨G',c9',ci,gv,-,-,hGb,jS,Bc,uM⟩:=hP.ao4 hs;obtain⟨rfl,hn0,rfl⟩:G'=G/\init.length+1=n0/\c9'=c9:=by rw[gv] at h0;simpa using h0
 have hpb:G'<w.heap.size:=hGb;have kq:w.cell? ⟨G',q,none⟩=some (.int .i64 lk.kind):=by have:=jS 0 (by decide);rw[Nat.add_zero,<-hq] at this;exact this
 have KQ0:=hd0 kq;have KQ2:Hid (w.cell? ⟨G',q+2,none⟩=some (rv 14).v):=by show _=_;rw[hq];exact jS 2 (by decide)
 have Hs:=hd0 hs;have Hq:=hd0 hq;have H0:=hd0 h0;have uQ:=hd0 uM;have HL:=hd0 hlen;have Hg:=hd0 hrd;have hds:(ws.drop 1).length<=1000000000:=by rw[aq0];omega
 have QB:=hd0 hds;have hcut:=hd0 (Vk w A' (n - 1) (c - 1) (ws.drop 1) hrd (by omega));have hn1:1<=n:=by omega
 have hpT:=RG (ws.drop 1);rw[hrest] at hpT;have HPT:=hd0 hpT;have ag7:=hd0 hrest;generalize ws.drop 1=ws1 at*
 clear hP hL hT hrd hlen hn hrest hs hq h0 gv jS Bc uM hn0 hds hpT aft;go_enter Tryz.func89,Tryz.ntmps89
 go_wp2_with fail
 refine hcut.out.mono ?_;rintro e w1 ⟨hb1,A0,k0,c0,A1,k1,c1,A2,k2,c2,A3,k3,c3,hpost⟩;cases hpl:kK ws1 with
 |none=>
  have HR:Hid (eF gl s l= .error 22):=Wp gl s Hs.out (by rw[HPT.out,hpl];rfl);rw[hpl] at hpost;have hpost:e=_:=hpost;subst hpost;have HB:=hd0 ((hb1.alloc hb1.size (.cells #[.slice A0 k0 c0,.slice A1 k1 c1,.slice A2 k2 c2,.slice A3 k3 c3] iU)).mono hB);clear hb1 hpl;go_wp2;go_ret
  exact anQ.bad HR.out HB.out
 |some rows=>
  rw[hpl] at hpost;obtain⟨rfl,hin⟩:e=_/\RowsIn dX w1 _ rows:=hpost;have HST:=hd0 (aoV.start hin);obtain⟨hr4,hrl⟩:=SK hpl;obtain⟨r0,r1,r2,r3,rfl⟩:∃a b c d,rows=[a,b,c,d]:=by
   match rows,hr4 with
   |[a,b,c,d],_=>exact⟨a,b,c,d,rfl⟩
  have Py:Hid (pR l=some [ah r0,ah r1,ah r2,ah r3]):=by show _=_;rw[HPT.out,hpl];rfl
  have uy:=hd0 hrl;have qY:Hid (∀x∈r3,x.2.2.length<=100000000):=fun x hx=>HL.out x (Vg hpl r3 (by simp) x hx)
  have Hb1:=hd0 hb1;have hs1:=hb1.size;clear hb1 hpl hin hr4 hrl hcut HPT;go_wp2_with fail
  go_loopw [26] (fun i wr=>∃k:Nat,k<=3/\i= .int .i64 k/\aoV w1 [r0,r1,r2,r3] [.slice A0 k0 c0,.slice A1 k1 c1,.slice A2 k2 c2,.slice A3 k3 c3] k wr) (fun i _=>3 - (intOf i).toNat)
  case atStart=>exact⟨0,by omega,rfl,HST.out⟩
  case round=>
   obtain⟨k,hk,rfl,hst⟩:=hrel;by_cases hlt:k<3
   ·obtain⟨hs3,l3,b1,b2,hin,hb,hj⟩:=hst;obtain⟨r,hrk⟩:∃r,[r0,r1,r2,r3][k]? =some r:=⟨_,aqn (by simp;omega)⟩
    obtain⟨Ar,kr,cr,hvk,hrr,hkc⟩:=hin.2 k r hrk;have q1:wr.cell? ⟨w1.heap.size,k,none⟩=some (.slice Ar kr cr):=(b1.cell k).trans (by simpa using hvk);have z1:=b1.lt;have z2:=b2.lt;have hk4:(k:Int)<4:=by omega
    have hk3:(k:Int)<3:=by omega
    have hkr:kr=r.length:=hrr.rd.aoE.symm;have hrm:=uy.out r (aqt hrk);have ai7:=QB.out;have hset:=hd0 (OB wr r wr.heap.size Ar kr cr hrr.rd (ag _) (by omega));have aiK:Hid (aoV w1 [r0,r1,r2,r3] [.slice A0 k0 c0,.slice A1 k1 c1,.slice A2 k2 c2,.slice A3 k3 c3] k wr):=⟨hs3,l3,b1,b2,hin,hb,hj⟩
    have hold:∃u,wr.cell? ⟨w1.heap.size+1,k,none⟩=some u/\Hid (∀w2,Below wr.heap.size wr w2->w2.cell? ⟨w1.heap.size+1,k,none⟩=some u/\w2.frozen? ⟨w1.heap.size+1,k,none⟩=false/\w1.heap.size+1<w2.heap.size):=by
     obtain⟨u,hu⟩:∃u,hs3[k]? =some u:=⟨_,aqn (by omega)⟩
     refine⟨u,(b2.cell k).trans (by simpa using hu),fun w2 hb2=> ?_⟩;have b2':=b2.keep (hb2.block _ b2.lt);exact⟨(b2'.cell k).trans (by simpa using hu),b2'.frozen k,b2'.lt⟩
    obtain⟨u,qu,hold⟩:=hold;have Hb:=hd0 hb;clear b1 b2 hin hb hj l3 hrr hkr hrm ai7 hvk;cases hsl:jc r with
    |none=>
     have HR:Hid (eF gl s l= .error 22):=Wh gl s Hs.out Py.out (by
      have h3:k=0\/k=1\/k=2:=by omega
      rcases h3 with rfl|rfl|rfl
      ·cases hrk;exact .inl (by rw[mJ,hsl];rfl)
      ·cases hrk;exact .inr (.inl (by rw[mJ,hsl];rfl))
      cases hrk;exact .inr (.inr (by rw[mJ,hsl];rfl)))
     have hs2:∀e w',gQ dX Ep wr r e w'->e= .returned (.tuple #[.slice none 0 0,.bool false])/\Below wr.heap.size wr w':=fun e w' h=>by unfold gQ at h;rw[hsl] at h;exact h
     have HS2:=hd0 hs2;clear hs2 hsl hrk;go_wp2_with fail
     refine hset.out.mono ?_;rintro e w2 hpost;obtain⟨rfl,hb2⟩:=HS2.out _ _ hpost;obtain⟨y1,y2,y3⟩:=hold.out w2 hb2;have HB:Hid (Below Bd w (w2.setCell ⟨w1.heap.size+1,k,none⟩ (.slice none 0 0))):=(((Hb1.out.trans (Hb.out.mono Hb1.out.size)).trans (hb2.mono (by omega))).setCell (by simp;omega) _).mono hB;clear hpost hb2 hold;go_wp2_with fail
     go_ret
     exact anQ.bad HR.out HB.out
    |some S=>
     have hs2:∀e w',gQ dX Ep wr r e w'->∃v,e= .returned (.tuple #[v,.bool true])/\vY dX Ep wr w' S v:=fun e w' h=>by unfold gQ at h;rw[hsl] at h;exact h
     have HS2:=hd0 hs2;have yt:Hid (∀w2 v,vY dX Ep wr w2 S v->aoV w1 [r0,r1,r2,r3] [.slice A0 k0 c0,.slice A1 k1 c1,.slice A2 k2 c2,.slice A3 k3 c3] (k+1) (w2.setCell ⟨w1.heap.size+1,k,none⟩ v)):=fun w2 v hret=>aiK.out.next hlt hrk hsl hret
     clear hs2 hsl hrk;go_wp2_with fail
     refine hset.out.mono ?_;rintro e w2 hpost;obtain⟨v,rfl,hret⟩:=HS2.out _ _ hpost;have rV:=hd0 (yt.out w2 v hret);obtain⟨A9,c9,h9,rfl,-,-,hb2⟩:=hret;obtain⟨y1,y2,y3⟩:=hold.out w2 hb2;clear hpost hb2 hold yt;go_wp2_with fail
     go_roundw
     case rel=>exact⟨k+1,by omega,by simp,rV.out⟩
     case measure=>simp[intOf];omega
   obtain rfl:k=3:=by omega
   obtain⟨hb3,S0,S1,S2,e0,e1,e2,B0,B1,B2,d0,d1,d2,h0,h1,h2,BP⟩:=hst.three;have HT3:=hd0 BP;have Qp:Hid (fD (ah r0)=some (aX S0)):=by show _=_;rw[mJ,e0];rfl
   have vk:Hid (fD (ah r1)=some (aX S1)):=by show _=_;rw[mJ,e1];rfl
   have HS2:Hid (fD (ah r2)=some (aX S2)):=by show _=_;rw[mJ,e2];rfl
   have HE:=hd0 (And.intro (vX e0) (And.intro (vX e1) (vX e2)));have Hb3:=hd0 (hb3.mono hs1);have HB3:Hid (Below w.heap.size w wr):=Hb1.out.trans Hb3.out;have z3:=hb3.size;have kd:wr.cell? ⟨G',q,none⟩=some (.int .i64 lk.kind):=((af HB3.out).1 _ _ hpb).trans kq;have zG:G'<wr.heap.size:=by omega
   clear hst e0 e1 e2 BP hb3 hsub HST kq
   go_upto_region 12 with fail
   go_cut [11] from 18 to 135 (fun s11 wx=>s11= .bool (rZ lk.kind)/\wr=wx)
   case first=>
    by_cases kk1:lk.kind=1
    ·have hb:Hid (rZ lk.kind=true):=by show _=_;rw[kk1];rfl
     have e1:(lk.kind==1)=true:=by simp[kk1]
     clear kk1;go_wp2_with fail
     go_meet
     exact⟨by rw[hb.out],rfl⟩
    have e1:(lk.kind==1)=false:=by simpa using kk1
    have hb:Hid (rZ lk.kind=(lk.kind==5)):=by show _=_;unfold rZ;rw[e1];rfl
    clear kk1;go_wp2_with fail
    go_meet
    exact⟨by rw[hb.out],rfl⟩
   case rest=>
    obtain⟨rfl,hwx⟩:=hcut;subst hwx;have m1:wr.cell? ⟨w1.heap.size+1,1,none⟩=some (.slice B1 S1.length d1):=HT3.out.wrt.cell 1;have x3:wr.cell? ⟨w1.heap.size,3,none⟩=some (.slice A3 k3 c3):=by obtain⟨a,b,c,h⟩:=HT3.out.parts;exact h.cell 3
    have zP:w1.heap.size+1<wr.heap.size:=HT3.out.wrt.lt;have hk3:k3=r3.length:=HT3.out.rd.rd.aoE.symm;have VG:k3<=1000000000:=by have h1:=uy.out r3 (by simp);have h2:=QB.out;omega
    have Vd:∀x:WIn (fun v=>Below wr.heap.size wr v),Calls Tryz.prog 135 #[.int .i64 lk.kind,.slice A3 k3 c3] x.w fun e w''=>e= .returned (.bool (dZ lk.kind (ah r3)))/\∃y:WIn (fun v=>Below wr.heap.size wr v),w''=y.w:=fun x=>(Xw x.w lk.kind A3 k3 c3 r3 (HT3.out.rd.below x.ok) qY.out VG).mono fun e w'' ⟨h1,h2⟩=>⟨h1,⟨⟨w'',x.ok.trans (h2.mono x.ok.size)⟩,rfl⟩⟩
    have kdX:∀x:WIn (fun v=>Below wr.heap.size wr v),x.w.cell? ⟨G',q,none⟩=some (.int .i64 lk.kind):=fun x=>Di x.ok kd
    have m1X:∀x:WIn (fun v=>Below wr.heap.size wr v),x.w.cell? ⟨w1.heap.size+1,1,none⟩=some (.slice B1 S1.length d1):=fun x=>Di x.ok m1
    have x3X:∀x:WIn (fun v=>Below wr.heap.size wr v),x.w.cell? ⟨w1.heap.size,3,none⟩=some (.slice A3 k3 c3):=fun x=>Di x.ok x3
    clear hk3;generalize harB:dZ lk.kind (ah r3)=ab at*
    generalize hoB:rZ lk.kind=ob at*
    have U6:=hd0 harB;have ZC:=hd0 hoB;clear harB hoB
    go_upto_region 13 with fail
    go_cut [69] from 18 to 135 (fun s69 wx=>s69= .bool (ob && S1.length !=1|| !ab)/\Below wr.heap.size wr wx)
    case first=>
     cases ob with
     |true=>
      by_cases hs1l:S1.length=1
      ·have e1:((S1.length:Int) !=1)=false:=by simp[hs1l]
       have e2:Hid ((S1.length !=1)=false):=hd0 (by simp[hs1l]);clear hs1l;go_wp2_with fail
       refine aW (fun v=>Below wr.heap.size wr v) (by kernel_rfl) (by kernel_rfl) ((aqk wr.heap.size wr).drew) ?_;have aU:Nonempty (WIn (fun v=>Below wr.heap.size wr v)):=⟨⟨_,((aqk wr.heap.size wr).drew)⟩⟩
       repeat(go_big_quiet_step (exact Vd _))
       refine wpQuiet_nil ?_;intro _ hw';obtain⟨xq,hw''⟩:=hw';subst hw'';go_wp2
       go_meet
       exact⟨by rw[e2.out];simp,xq.ok⟩
      have e1:((S1.length:Int) !=1)=true:=by simp;omega
      have e2:Hid ((S1.length !=1)=true):=hd0 (by simp;omega);clear hs1l;go_wp2_with fail
      go_quiet (fail)
      go_wp2
      go_meet
      exact⟨by rw[e2.out];simp,below_drewN (aqk _ _) _⟩
     |false=>
      go_wp2_with fail
      refine aW (fun v=>Below wr.heap.size wr v) (by kernel_rfl) (by kernel_rfl) ((aqk wr.heap.size wr).drew) ?_;have aU:Nonempty (WIn (fun v=>Below wr.heap.size wr v)):=⟨⟨_,((aqk wr.heap.size wr).drew)⟩⟩
      repeat(go_big_quiet_step (exact Vd _))
      refine wpQuiet_nil ?_;intro _ hw';obtain⟨xq,hw''⟩:=hw';subst hw'';go_wp2
      go_meet
      exact⟨by simp,xq.ok⟩
    case rest=>
     obtain⟨rfl,hbx⟩:=hcut;cases hbad:(ob && S1.length !=1|| !ab) with
     |true=>
      have HR:Hid (eF gl s l= .error 22):=Zx gl s Hs.out Py.out Qp.out vk.out HS2.out (by rw[ZC.out,U6.out,uD];exact hbad);have HB:=hd0 ((HB3.out.trans (hbx.mono HB3.out.size)).mono hB);clear hbad hbx;go_wp2_with fail
      go_ret
      exact anQ.bad HR.out HB.out
     |false=>
      have HT4:=hd0 (HT3.out.below hbx);have HB4:Hid (Below w.heap.size w wc):=HB3.out.trans (hbx.mono HB3.out.size);have kd4:=Di hbx kd;have z4:=hbx.size;have hle:S0.length<=1000000000/\S1.length<=1000000000/\S2.length<=1000000000:=by obtain⟨⟨g0,-⟩,⟨g1,-⟩,⟨g2,-⟩⟩:=HE.out;have f0:=uy.out r0 (by simp);have f1:=uy.out r1 (by simp);have f2:=uy.out r2 (by simp);have hd:=QB.out;omega
      have Rq:=hd0 hle;have HLR:Hid ((∀r∈S0,r.length<=1000000000)/\(∀r∈S1,r.length<=1000000000)/\(∀r∈S2,r.length<=1000000000)):=by obtain⟨⟨-,g0⟩,⟨-,g1⟩,⟨-,g2⟩⟩:=HE.out;have f0:=uy.out r0 (by simp);have f1:=uy.out r1 (by simp);have f2:=uy.out r2 (by simp);have hd:=QB.out;exact⟨fun r hr=>by have:=g0 r hr;omega,fun r hr=>by have:=g1 r hr;omega,fun r hr=>by have:=g2 r hr;omega⟩
      have Pj:=hd0 (fun er l=>Uz gl s.cls HP.out.glI HP.out.ap5 er [] (by simp) l);clear kd m1 x3 kdX m1X x3X Vd hbx hle;go_wp2_with fail
      refine(gu wc p).mono ?_;rintro e w5 ⟨rfl,pK,hb5⟩;have qK:Hid (Below w.heap.size w w5):=HB4.out.trans (hb5.mono HB4.out.size);have xC:=HT4.out.below hb5;have hA5:=(HP.out.below qK.out).at;have z5:=hb5.size;have m0:w5.cell? ⟨w1.heap.size+1,0,none⟩=some (.slice B0 S0.length d0):=xC.wrt.cell 0;have m1:w5.cell? ⟨w1.heap.size+1,1,none⟩=some (.slice B1 S1.length d1):=xC.wrt.cell 1;have m2:w5.cell? ⟨w1.heap.size+1,2,none⟩=some (.slice B2 S2.length d2):=xC.wrt.cell 2;have Kq:Hid (∀W er B n d S h,Rdr W wc.heap.size p er->PAt W p gm cm gl s.cls->RdT W Ep B n 1 h->RowsIn dX W h S->n<=1000000000->(∀r∈S,r.length<=1000000000)->Calls Tryz.prog 136 #[.pointer (some ⟨wc.heap.size,0,none⟩),.slice B n d] W (fun e w'=>∃v,e= .returned v/\aoZ W wc.heap.size p (aV gl s.cls er (aX S)).1 n (aV gl s.cls er (aX S)).2 v w')):=fun W er B n d S h g1 g2 g3 g4 g5 g6=>rows_ok W wc.heap.size p gm cm gl s.cls er B n d S h g1 g2 g3 g4 g5 g6 Pj.out
      have UC:=hd0 pK;have BI:=hd0 xC;have YS:=hd0 hA5;have Hb5:=hd0 hb5;clear pK xC hA5 hb5;go_wp2_with fail
      go_region_held3 (fun w'=>w'.cell? ⟨w1.heap.size+1,0,none⟩=some (.slice B0 S0.length d0)/\w'.cell? ⟨w1.heap.size+1,1,none⟩=some (.slice B1 S1.length d1)/\w'.cell? ⟨w1.heap.size+1,2,none⟩=some (.slice B2 S2.length d2))
       (first
        |exact⟨Ba.out.wrt.cell 0,Ba.out.wrt.cell 1,Ba.out.wrt.cell 2⟩
        |exact⟨xK.out.wrt.cell 0,xK.out.wrt.cell 1,xK.out.wrt.cell 2⟩
        |exact⟨xe.out.wrt.cell 0,xe.out.wrt.cell 1,xe.out.wrt.cell 2⟩
        |exact⟨m0,m1,m2⟩
        |go_keep)
       (first
        |(go_at_call 136;refine(Kq.out w7 _ _ _ _ S2 h2 Yp.out HA7.out xK.out.q2 xK.out.i2 Rq.out.2.2 HLR.out.2.2).mono ?_;rintro e w8 ⟨v8,rfl,A8,c8,hs8,rfl,ho8,hf8,hr8,Ul⟩;have Ba:=hd0 (xK.out.reader Yp.out Ul);have HO8:=hd0 ho8;have HF8:=hd0 hf8;have Hr8:=hd0 hr8;have Hg8:=hd0 Ul;clear ho8 hf8 hr8 Ul)
        |(go_at_call 136;refine(Kq.out w6 _ _ _ _ S1 h1 XP.out HA6.out xe.out.q1 xe.out.i1 Rq.out.2.1 HLR.out.2.1).mono ?_;rintro e w7 ⟨v7,rfl,A7,c7,hs7,rfl,ho7,hf7,hr7,Uu⟩;have xK:=hd0 (xe.out.reader XP.out Uu);have HA7:=hd0 (HA6.out.reader XP.out Uu);have HO7:=hd0 ho7;have KI:=hd0 hf7;have Yp:=hd0 hr7;have Hg7:=hd0 Uu;clear ho7 hf7 hr7 Uu)
        |(go_at_call 136;refine(Kq.out w5.drew _ _ _ _ S0 h0 (by exact UC.out) (by exact(YS.out.keep (w':=w5.drew) (fun _ _ _ _ _=>rfl) (fun _ _ _ _=>rfl))) (by exact BI.out.q0.below (aqk _ w5).drew) (by exact BI.out.i0.below (aqk _ w5).drew) Rq.out.1 HLR.out.1).mono ?_;rintro e w6 ⟨v6,rfl,A6,c6,hs6,rfl,ho6,hf6,hr6,IX⟩;have TQ:w5.grownBy w6 (some wc.heap.size):=⟨IX.os,IX.tape,IX.output,IX.size,IX.block⟩;have xe:=hd0 (BI.out.reader UC.out TQ);have HA6:=hd0 (YS.out.reader UC.out TQ);have HO6:=hd0 ho6;have HF6:=hd0 hf6;have XP:=hd0 hr6;have Hg6:=hd0 TQ;clear ho6 hf6 hr6 TQ IX))
      have afL:Hid (aoq w5.drew.heap.size A6 S0.length hs6 (aV gl s.cls 0 (aX S0)).2 w8):=((aoq.mk' HO6.out HF6.out).reader XP.out Hg7.out).reader Yp.out Hg8.out;have acd:Hid (aoq w6.heap.size A7 S1.length hs7 (aV gl s.cls (aV gl s.cls 0 (aX S0)).1 (aX S1)).2 w8):=(aoq.mk' HO7.out KI.out).reader Yp.out Hg8.out;have agq:Hid (aoq w7.heap.size A8 S2.length hs8 (aV gl s.cls (aV gl s.cls (aV gl s.cls 0 (aX S0)).1 (aX S1)).1 (aX S2)).2 w8):=aoq.mk' HO8.out HF8.out;have Rz:w.heap.size<=wc.heap.size:=by omega
      have HB8:Hid (Below w.heap.size w w8):=bz (bz (bz qK.out Hg6.out Rz) Hg7.out Rz) Hg8.out Rz;have HLn:Hid (∀er l,∀r∈(aV gl s.cls er l).2,r.length<=1000000000):=fun er l=>EC gl s.cls (fun r=>r.length<=1000000000) (fun er l=>nt (ac1 gl s.cls HP.out.aqg er [] (by simp) l) (by omega)) er l
      have HIn:Hid (∀er l,∀r∈(aV gl s.cls er l).2,∀x∈r,I64 x):=fun er l=>EC gl s.cls (fun r=>∀x∈r,I64 x) (fun er l=>Pj.out er l) er l
      have hl0:(aV gl s.cls 0 (aX S0)).2.length=S0.length:=by rw[yB,uD]
      have hl1:(aV gl s.cls (aV gl s.cls 0 (aX S0)).1 (aX S1)).2.length=S1.length:=by rw[yB,uD]
      have hl2:(aV gl s.cls (aV gl s.cls (aV gl s.cls 0 (aX S0)).1 (aX S1)).1 (aX S2)).2.length=S2.length:=by rw[yB,uD]
      have uO:=hd0 (And.intro hl0 (And.intro hl1 hl2));have H0L:=HLn.out 0 (aX S0);have H0I:=HIn.out 0 (aX S0);have H1L:=HLn.out (aV gl s.cls 0 (aX S0)).1 (aX S1);have H1I:=HIn.out (aV gl s.cls 0 (aX S0)).1 (aX S1);have H2L:=HLn.out (aV gl s.cls (aV gl s.cls 0 (aX S0)).1 (aX S1)).1 (aX S2);have H2I:=HIn.out (aV gl s.cls (aV gl s.cls 0 (aX S0)).1 (aX S1)).1 (aX S2);have HRR:=XQ gl s Hs.out Py.out Qp.out vk.out HS2.out;clear hl0 hl1 hl2;have agT:=hd0 HRR;clear HRR;generalize hq0:aV gl s.cls 0 (aX S0)=y0 at*
      generalize hq1:aV gl s.cls y0.1 (aX S1)=y1 at*
      generalize hq2:aV gl s.cls y1.1 (aX S2)=y2 at*
      have Hq0:=hd0 hq0;have Hq1:=hd0 hq1;have Hq2:=hd0 hq2;clear hq0 hq1 hq2;have XE:=hd0 (And.intro H0L (And.intro H1L H2L));have H3I:=hd0 (And.intro H0I (And.intro H1I H2I));clear H0L H1L H2L H0I H1I H2I Kq YS HA6 HA7 HO6 HO7 HO8 HF6 KI HF8 UC XP Yp BI xe xK Hb5 m0 m1 m2;have acW:=hd0 (afL.out.sets (c:=c6) Rq.out.1 XE.out.1 H3I.out.1);go_wp2_with fail
      refine acW.out.mono ?_;rintro e w9 ⟨v9,rfl,A9,c9,hs9,rfl,aZ,hf9,di⟩;have acT:=hd0 ((acd.out.below di).sets (c:=c7) Rq.out.2.1 XE.out.2.1 H3I.out.2.1);go_wp2_with fail
      refine acT.out.mono ?_;rintro e w10 ⟨v10,rfl,A10,c10,hs10,rfl,PU,afI,pF⟩;have acM:=hd0 (((agq.out.below di).below pF).sets (c:=c8) Rq.out.2.2 XE.out.2.2 H3I.out.2.2);go_wp2_with fail
      refine acM.out.mono ?_;rintro e ji ⟨v11,rfl,Pg,c11,hs11,rfl,agQ,agI,pg⟩;have hab:ab=true:=by
       cases ab with
       |true=>rfl
       |false=>rw[Bool.not_false,Bool.or_true] at hbad;cases hbad
      have hone:¬((lk.kind=1\/lk.kind=5)/\(aX S1).length≠1):=by
       rintro⟨g1,g2⟩;have h1:rZ lk.kind=true:=by unfold rZ;rcases g1 with g|g<;>rw[g]<;>rfl
       have h2:ob=true:=by rw[<-ZC.out,h1]
       rw[uD] at g2;rw[h2,hab] at hbad;simp at hbad;exact g2 hbad
      have hRR:=agT.out hone (by rw[U6.out,hab]);have Qq:Hid (eF gl s l=if kL gl lk.kind y2.1 (ah r3)≠0 then .error (kL gl lk.kind y2.1 (ah r3)) else yI s lk.kind y1.2 (dA gl lk.kind y0.2 y1.2 y2.2 (ah r3))):=by
       show _=_
       first
        |exact hRR
        |(rw[Hq1.out,Hq2.out] at hRR;exact hRR)
        |(subst_vars;exact hRR)
        |(rw[<-Hq2.out,<-Hq1.out];exact hRR)
      have s8:=HB8.out.size;have aaY:Hid (Below w.heap.size w ji):=((HB8.out.trans (di.mono s8)).trans (pF.mono (nt s8 di.size))).trans (pg.mono (nt s8 (nt di.size pF.size)));have s11:=aaY.out.size;have E5:=hd0 (((Ba.out.below di).below pF).below pg);have afP:=hd0 (((Hr8.out.below di).below pF).below pg);have kU:=hd0 (own_below (own_below aZ pF) pg);have aae:=hd0 (own_below PU pg);have af6:=hd0 agQ;have HF9:Hid (Fl anN 1 ji (IB w8.heap.size ji) hs9 (y0.2.map setOf)):=(hf9.ib (aH pF none) (fun g e=>by cases e)).ib (aH pg none) (fun g e=>by cases e);have Ja:Hid (Fl anN 1 ji (IB w9.heap.size ji) hs10 (y1.2.map setOf)):=afI.ib (aH pg none) (fun g e=>by cases e);have afO:=hd0 agI;have s9:=di.size;have s10:=pF.size;have Vf:=pg.size;have Wq:=hd0 (((acd.out.below di).below pF).below pg);have hgm:gm<w.heap.size:=HP.out.gmp.lt;have hpp:p<w.heap.size:=HP.out.par.lt;have HAB:Hid (dZ lk.kind (ah r3)=true):=by show _=_;rw[U6.out,hab]
      have agA:Hid (ob=true->S1.length=1):=fun e=>by
       rw[e,hab] at hbad;simpa using hbad
      clear hRR hone di pF pg aZ PU agQ hf9 afI agI acW acT acM afL agq hab hbad;go_wp2_with fail
      obtain⟨oQ,PQ⟩:∃oQ,ji.alloc (.cells #[.slice A9 S0.length c9,.slice A10 S1.length c10,.slice Pg S2.length c11,.slice none 0 0,.slice none 0 0,.int .i64 0] mP)=oQ:=⟨_,rfl⟩
      rw[PQ];have hba:Below ji.heap.size ji oQ:=PQ ▸ (aqk _ _).alloc (ag _) _;have uY:=hd0 hba;have nJ:Hid (Bk oQ ji.heap.size mP #[.slice A9 S0.length c9,.slice A10 S1.length c10,.slice Pg S2.length c11,.slice none 0 0,.slice none 0 0,.int .i64 0]):=PQ ▸ Bk.new _ _ _;have Dl:=hd0 (E5.out.below hba);have oD:=hd0 (afP.out.below hba);have Ir:Hid (Below w.heap.size w oQ):=aaY.out.trans (hba.mono s11);have abA:oQ.cell? ⟨G',q,none⟩=some (.int .i64 lk.kind):=Di hba (((af aaY.out).1 _ _ hpb).trans KQ0.out);have ab4:oQ.cell? ⟨w1.heap.size,3,none⟩=some (.slice A3 k3 c3):=by obtain⟨a,b,c,h⟩:=Dl.out.parts;exact h.cell 3
      have s12:=hba.size;have hCl:=nJ.out.lt;have afM:=hd0 ((HP.out.below Ir.out).at.gm);have hout:=hd0 (out_ok oQ.drew ji.heap.size wc.heap.size p gm gl lk.kind y2.1 (.slice A9 S0.length c9) (.slice A10 S1.length c10) (.slice Pg S2.length c11) A3 k3 c3 r3 (by exact nJ.out) (by exact oD.out) (afM.out.below (aqk _ oQ).drew) (by show p<oQ.heap.size;omega) (by omega) (by omega) (by omega) (by omega) (by exact Dl.out.rd.below (aqk _ oQ).drew) qY.out VG HAB.out y0.2 y1.2 y2.2);have zq1:w1.heap.size<ji.heap.size:=by obtain⟨a,b,c,h⟩:=E5.out.parts;exact h.lt
      have zq2:w1.heap.size<wc.heap.size:=by obtain⟨a,b,c,h⟩:=HT4.out.parts;exact h.lt
      clear hba PQ;go_wp2_with fail
      try rw[PQ]
      go_region_held3 (fun w'=>w'.cell? ⟨G',q,none⟩=some (.int .i64 lk.kind)/\w'.cell? ⟨w1.heap.size,3,none⟩=some (.slice A3 k3 c3))
       (first
        |exact⟨abA,ab4⟩
        |exact⟨YG,YT⟩
        |go_keep)
       (first
        |(go_at_call 138;refine hout.out.mono ?_;rintro e oP ⟨rfl,hor⟩;have YG:oP.cell? ⟨G',q,none⟩=some (.int .i64 lk.kind):=(World.cell?_of_block (a:=⟨G',q,none⟩) (hor.two.block G' (by show G'<oQ.heap.size;omega) (by omega) (by omega))).trans abA;have YT:oP.cell? ⟨w1.heap.size,3,none⟩=some (.slice A3 k3 c3):=(World.cell?_of_block (a:=⟨w1.heap.size,3,none⟩) (hor.two.block w1.heap.size (by show w1.heap.size<oQ.heap.size;omega) (by omega) (by omega))).trans ab4;have HOR:=hd0 hor;clear hor))
      obtain⟨⟨Ao,co,Ac,cc,hbk,hoo,hoc⟩,hrd,htw⟩:=HOR.out;have lm:Below w.heap.size w oP:=Two.below (a:=wc.heap.size) (b:=ji.heap.size) (w:=oQ.drew) ⟨Ir.out.os,Ir.out.tape,Ir.out.output,Ir.out.size,Ir.out.block⟩ htw (by omega) (by omega);have k13:oP.cell? ⟨wc.heap.size,1,none⟩=some (.int .i64 (kL gl lk.kind y2.1 (ah r3))):=hrd.cell 1;have WY:wc.heap.size<oP.heap.size:=hrd.lt;have jw:=hd0 lm;have eH:=hd0 hbk;have HOO:=hd0 hoo;have HOC:=hd0 hoc;have ahP:=hd0 hrd;have uV:=hd0 htw;clear lm hbk hoo hoc hrd htw HOR;generalize hge:kL gl lk.kind y2.1 (ah r3)=er at*
      by_cases her:er=0
      ·subst her;have Q4:Hid (eF gl s l=yI s lk.kind y1.2 (dA gl lk.kind y0.2 y1.2 y2.2 (ah r3))):=by show _=_;rw[Qq.out,if_neg (by simp)]
       clear hge;cases ob with
       |false=>
        have W9:Hid (eF gl s l= .ok (jG s fun x=> {x with rules:=x.rules++[dA gl lk.kind y0.2 y1.2 y2.2 (ah r3)]})):=by
         show _=_;rw[Q4.out];unfold yI;have hno:¬(lk.kind=1\/lk.kind=5):=by intro g;have h9:=ZC.out;unfold rZ at h9;rcases g with g|g<;>rw[g] at h9<;>cases h9
         rw[if_neg hno]
        have aO:=HP.out.below jw.out;obtain⟨UN,c14,hv⟩:=aO.slice (i:=14) (by decide);have hfew:=aO.few 14 (by decide);have hown:=aO.live.own 14 (by decide);rw[hv] at hown;have xX:oP.cell? ⟨G',q+2,none⟩=some (.slice UN (rv 14).n c14):=by rw[<-hv];exact((af jw.out).1 _ _ hpb).trans KQ2.out
        have vC:=eH.out.cell 0;have xE:=eH.out.cell 1;have AZ:=eH.out.cell 2;have BG:=eH.out.cell 3;have G6:=eH.out.cell 4;have F9:=eH.out.cell 5;simp only[List.getElem?_toArray,aqz,aqw] at vC xE AZ BG G6 F9;have zp:G'<oP.heap.size:=aqu hpb jw.out.size;have zc:=eH.out.lt;obtain⟨A5,c5,Bl,hrun,aZ,aB,bD⟩:=iw Ph 70 oP Bd _ c14 UN _ #[.slice A9 S0.length c9,.slice A10 S1.length c10,.slice Pg S2.length c11,.slice Ao (dA gl lk.kind y0.2 y1.2 y2.2 (ah r3)).out.length co,.slice Ac (dA gl lk.kind y0.2 y1.2 y2.2 (ah r3)).calls.length cc,.int .i64 (dA gl lk.kind y0.2 y1.2 y2.2 (ah r3)).x] rfl hown (by simp[Value.oneCell']) (by omega) aO.size;rw[<-hv] at aB bD;have bT:∃cur,Bk Bl G' 72 cur/\cur[q+2]? =some (rv 14).v:=by obtain⟨cur,di⟩:=uQ.out;have h1:Bk Bl G' 72 cur:=Bk.grown (di.keep (jw.out.block G' hpb)) aB (aO.live.own 14 (by decide)) (by decide);exact⟨cur,h1,by rw[<-di.cell];exact KQ2.out⟩
        obtain⟨J8,bT,sU⟩:=bT;have x9:Bl.cell? ⟨G',q+2,none⟩=some (rv 14).v:=(bT.cell _).trans sU;have y9:=bT.frozen (q+2);obtain⟨io,ic,ix⟩:=GK gl HP.out.glI lk.kind y0.2 y1.2 y2.2 (ah r3);have nI:=(aqk oQ.heap.size oQ).drew;have L0:(y0.2.map setOf).length=S0.length:=by rw[aqs];exact uO.out.1
        have L1:(y1.2.map setOf).length=S1.length:=by rw[aqs];exact uO.out.2.1
        have L2:(y2.2.map setOf).length=S2.length:=by rw[aqs];exact uO.out.2.2
        have q9:=tV uV.out (by exact oD.out) (by exact nJ.out) (by decide) (by decide) (own_below (own_below kU.out uY.out) nI);have q10:=tV uV.out (by exact oD.out) (by exact nJ.out) (by decide) (by decide) (own_below (own_below aae.out uY.out) nI);have q11:=tV uV.out (by exact oD.out) (by exact nJ.out) (by decide) (by decide) (own_below (own_below af6.out uY.out) nI);have f9:=uz uV.out (by exact oD.out) (by exact nJ.out) (by decide) (by decide) ((HF9.out.ib (aH uY.out none) (fun g e=>by cases e)).ib (aH nI none) (fun g e=>by cases e));have f10:=uz uV.out (by exact oD.out) (by exact nJ.out) (by decide) (by decide) ((Ja.out.ib (aH uY.out none) (fun g e=>by cases e)).ib (aH nI none) (fun g e=>by cases e));have f11:=uz uV.out (by exact oD.out) (by exact nJ.out) (by decide) (by decide) ((afO.out.ib (aH uY.out none) (fun g e=>by cases e)).ib (aH nI none) (fun g e=>by cases e));rw[<-L0] at q9;rw[<-L1] at q10;rw[<-L2] at q11;have hdr:oQ.drew.heap.size=oQ.heap.size:=rfl;have hrel:=Pe HP.out q9 f9 q10 f10 q11 f11 HOO.out HOC.out io ic ix (by omega) (by omega) (by omega) (by omega) (by omega) (by omega) (by omega) (by omega);rw[L0,L1,L2] at hrel;have bP:=hd0 (PSt.apb aO Hs.out H0.out (y:=dA gl lk.kind y0.2 y1.2 y2.2 (ah r3)) (K':=K+n) aB aZ bD (Fl.one (R:=an7) hrel rfl) (by omega));rw[<-Hq.out] at bP;have HQ:=hd0 (KQ.below (cm:=cm) jw.out);have tN:=hd0 (jw.out.mono hB);have PD:Hid (eF gl s l= .ok {s with f:= {s.f with anM:=init++[{lk with rules:=lk.rules++[dA gl lk.kind y0.2 y1.2 y2.2 (ah r3)]}]}}):=by show _=_;rw[W9.out,Gs s _ Hs.out]
        clear hown aZ bD bT sU q9 q10 q11 f9 f10 f11 hrel io ic ix L0 L1 L2 hdr nI aB aO;go_wp2_with fail
        go_region
        all_goals
         go_wp2;go_ret
         obtain⟨rv',g1,g2,g3⟩:=bP.out;exact anQ.good PD.out (tN.out.trans g3) (HQ.out.trans g2) g1
       |true=>
        have hs1:=agA.out rfl;obtain⟨gg,hgg⟩:∃gg,y1.2=[gg]:=by
         have h9:=uO.out.2.1;rw[hs1] at h9
         match y1.2,h9 with
         |[a],_=>exact⟨a,rfl⟩
        clear agA;generalize hyy:y1.2=yy at*
        generalize hmm:S1.length=m1 at*
        subst hgg hs1;clear hyy hmm;have W9:Hid (eF gl s l=match eu gg (dA gl lk.kind y0.2 [gg] y2.2 (ah r3)).out with
          | .error e=> .error e
          | .ok o=> .ok (jG s fun x=> {x with rules:=x.rules++[{dA gl lk.kind y0.2 [gg] y2.2 (ah r3) with out:=o}]})):=by
         show _=_;rw[Q4.out];unfold yI;have hyes:lk.kind=1\/lk.kind=5:=by have h9:=ZC.out;unfold rZ at h9;simpa using h9
         rw[if_pos hyes];rfl
        have nI:=(aqk oQ.heap.size oQ).drew;have hw1:aoq w6.heap.size A7 1 hs7 [gg] oP:=⟨uV.out.rdT (by exact oD.out) (by exact nJ.out) (by decide) (by decide) ((Wq.out.rd.below uY.out).below nI),uz uV.out (by exact oD.out) (by exact nJ.out) (by decide) (by decide) ((Wq.out.fl.ib (aH uY.out none) (fun g e=>by cases e)).ib (aH nI none) (fun g e=>by cases e))⟩
        have q10:=tV uV.out (by exact oD.out) (by exact nJ.out) (by decide) (by decide) (own_below (own_below aae.out uY.out) nI);have f10:=uz uV.out (by exact oD.out) (by exact nJ.out) (by decide) (by decide) ((Ja.out.ib (aH uY.out none) (fun g e=>by cases e)).ib (aH nI none) (fun g e=>by cases e));have hw2:=aoq.mk' q10 f10;obtain⟨b1,o1,A20,c20,rfl,zb1,g1,R1⟩:=hw1.first (by omega);obtain⟨b2,o2,A21,c21,rfl,zb2,g2,R2⟩:=hw2.first (by omega);have h1:=eH.out.cell 1;have h3:=eH.out.cell 3;have y3:=eH.out.frozen 3;simp only[List.getElem?_toArray,aqz,aqw] at h1 h3;have zc:=eH.out.lt;have hk3:=Dl.out.rd.rd.aoE;have hol:(dA gl lk.kind y0.2 [gg] y2.2 (ah r3)).out.length<=1000000000:=nt (V5 _ _ _ _ _ _) (by rw[iq,hk3];exact VG);have hgl:gg.length<=1000000000:=XE.out.2.1 gg (by simp);have hsl:=nt (KN gg) hgl;obtain⟨io,ic,ix⟩:=GK gl HP.out.glI lk.kind y0.2 [gg] y2.2 (ah r3);have R3:Rd oP oP.heap.size Ao (dA gl lk.kind y0.2 [gg] y2.2 (ah r3)).out.length 1 (aP (dA gl lk.kind y0.2 [gg] y2.2 (ah r3)).out):=(kH HOO.out).rd;have hso:=VF oP.drew A20 A21 Ao _ _ _ c20 c21 co gg (setOf gg) (dA gl lk.kind y0.2 [gg] y2.2 (ah r3)).out rfl (by exact R1) (by exact R2) (by exact R3) hgl hsl hol;have HIO:=hd0 io;have HIC:=hd0 ic;have HIX:=hd0 ix;clear io ic ix R1 R2 R3 hol hgl hsl hk3 hw1 hw2 q10 f10;generalize hro:(dA gl lk.kind y0.2 [gg] y2.2 (ah r3)).out=ro at*
        have HRO:=hd0 hro;clear hro;go_wp2_with fail
        have Xz:=hd0 (And.intro s8 (And.intro s9 (And.intro s10 (And.intro s11 (And.intro Vf (And.intro s12 (And.intro hCl (And.intro Rz WY))))))));clear s8 s9 s10 Vf s12 hCl Rz WY z3 z4 z5 zG zP zq1 zq2 hgm hpp hs1 hnn hc kd4 abA ab4 YG YT k13;clear HT3 HT4 HB4 qK HB8 Hg6 Hg7 Hg8 HLn HIn Pj agT Hr8 Hq0 Hq1 Hq2 afP Ba afM acd Wq hout HE Qp vk HS2 Py uy ag7 Hg QB HL Hb1 Hb3 HB3 H3I HAB Qq Q4 E5 Dl qY VG U6 XE Rq HRO ahP ZC HLR;have HSO:=hd0 hso;have acs:=hd0 (aqk oP.heap.size oP).drew;clear hso;go_cut [17] from 109 to 122 (fun s17 wx=>∃lZ yG n30 yO code,s17= .int .i64 code/\wx=lZ.setCell ⟨ji.heap.size,3,none⟩ (.slice yG n30 yO)/\aoU oP.drew (eu gg ro) (.returned (.tuple #[.slice yG n30 yO,.int .i64 code])) lZ)
        case first=>
         go_region_with (go_at_call 139;refine HSO.out.mono ?_;rintro e lZ hpost;obtain⟨yG,n30,yO,code,rfl,hpost⟩:=hpost.shape;have CU:=hpost.1;have b14:=eH.out.keep (CU.block _ zc);have x9:=(b14.cell 3).trans rfl;have y9:=b14.frozen 3;have HPO:=hd0 hpost;clear CU b14 hpost)
         all_goals
          go_wp2_with fail
          go_meet
          exact⟨lZ,yG,n30,yO,code,rfl,rfl,HPO.out⟩
        case rest=>
        obtain⟨lZ,yG,n30,yO,code,rfl,rfl,hpost⟩:=hcut;have b14:Bk lZ ji.heap.size mP #[.slice A9 S0.length c9,.slice (some ⟨b2,o2,none⟩) 1 c10,.slice Pg S2.length c11,.slice Ao ro.length co,.slice Ac (dA gl lk.kind y0.2 [gg] y2.2 (ah r3)).calls.length cc,.int .i64 (dA gl lk.kind y0.2 [gg] y2.2 (ah r3)).x]:=eH.out.keep (hpost.1.block _ zc);have acS:=hd0 b14;have ab3:=hd0 hpost.1;clear b14 g1 g2 h1 h3 y3;cases hsort:eu gg ro with
        |error e9=>
         rw[hsort] at hpost;have he9:(code !=0)=true:=by have:=hpost.2;simp only[Ending.returned.injEq,Value.tuple.injEq] at this;simp only[Array.mk.injEq,arc,Value.int.injEq,true_and,and_true] at this;have h9:code=e9:=this.2;subst h9;rcases TA hsort with rfl|rfl<;>rfl
         have hce:code=e9:=by have:=hpost.2;simp only[Ending.returned.injEq,Value.tuple.injEq,Array.mk.injEq,arc,Value.int.injEq,true_and,and_true] at this;exact this.2
         have PD:Hid (eF gl s l= .error code):=by show _=_;rw[W9.out,hsort,hce]
         clear hpost hsort hce;go_wp2_with fail
         go_ret
         exact anQ.bad PD.out (((jw.out.trans (acs.out.mono jw.out.size)).trans (ab3.out.mono jw.out.size)).setCell (by obtain⟨s8,s9,s10,s11,-⟩:=Xz.out;omega) _|>.mono hB)
        |ok o9=>
         rw[hsort] at hpost;obtain⟨A31,c31,e31,JQ⟩:=hpost.2;have h31:yG=A31/\n30=o9.length/\yO=c31/\code=0:=by simp only[Ending.returned.injEq,Value.tuple.injEq] at e31;simpa [and_assoc] using e31
         obtain⟨rfl,rfl,rfl,rfl⟩:=h31;have agU:=hd0 JQ;have akh:=hd0 (RI hsort HIO.out);have PD:Hid (eF gl s l= .ok {s with f:= {s.f with anM:=init++[{lk with rules:=lk.rules++[{dA gl lk.kind y0.2 [gg] y2.2 (ah r3) with out:=o9}]}]}}):=by show _=_;rw[W9.out,hsort];simp only;rw[Gs s _ Hs.out]
         have VO:Bk (lZ.setCell ⟨ji.heap.size,3,none⟩ (.slice yG o9.length yO)) ji.heap.size mP #[.slice A9 S0.length c9,.slice (some ⟨b2,o2,none⟩) 1 c10,.slice Pg S2.length c11,.slice yG o9.length yO,.slice Ac (dA gl lk.kind y0.2 [gg] y2.2 (ah r3)).calls.length cc,.int .i64 (dA gl lk.kind y0.2 [gg] y2.2 (ah r3)).x]:=acS.out.set 3 _;have oC:oP.grownBy (lZ.setCell ⟨ji.heap.size,3,none⟩ (.slice yG o9.length yO)) (some ji.heap.size):=cZ (aH acs.out _) (cZ (aH ab3.out _) (dF lZ _ _));have aca:=agU.out.kept (dF lZ ⟨ji.heap.size,3,none⟩ (.slice yG o9.length yO)) (bZ agU.out acS.out (by decide));have IK:Below w.heap.size w (lZ.setCell ⟨ji.heap.size,3,none⟩ (.slice yG o9.length yO)):=((jw.out.trans (acs.out.mono jw.out.size)).trans (ab3.out.mono jw.out.size)).setCell (by obtain⟨s8,s9,s10,s11,-⟩:=Xz.out;omega) _;clear hpost hsort e31 JQ;obtain⟨Bl,age⟩:∃x,(lZ.setCell ⟨ji.heap.size,3,none⟩ (.slice yG o9.length yO))=x:=⟨_,rfl⟩
         rw[age] at VO oC aca IK ⊢;clear age;have Ae:=hd0 VO;have Jn:=hd0 IK;have aO:=HP.out.below Jn.out;obtain⟨UN,c14,hv⟩:=aO.slice (i:=14) (by decide);have hfew:=aO.few 14 (by decide);have hown:=aO.live.own 14 (by decide);rw[hv] at hown;have xX:Bl.cell? ⟨G',q+2,none⟩=some (.slice UN (rv 14).n c14):=by rw[<-hv];exact((af Jn.out).1 _ _ hpb).trans KQ2.out
         have vC:=Ae.out.cell 0;have xE:=Ae.out.cell 1;have AZ:=Ae.out.cell 2;have BG:=Ae.out.cell 3;have G6:=Ae.out.cell 4;have F9:=Ae.out.cell 5;simp only[List.getElem?_toArray,aqz,aqw] at vC xE AZ BG G6 F9;have zp:G'<Bl.heap.size:=aqu hpb Jn.out.size;have amj:=Ae.out.lt;obtain⟨A5,c5,w16,hrun,aZ,aB,bD⟩:=iw Ph 70 Bl Bd _ c14 UN _ #[.slice A9 S0.length c9,.slice (some ⟨b2,o2,none⟩) 1 c10,.slice Pg S2.length c11,.slice yG o9.length yO,.slice Ac (dA gl lk.kind y0.2 [gg] y2.2 (ah r3)).calls.length cc,.int .i64 (dA gl lk.kind y0.2 [gg] y2.2 (ah r3)).x] rfl hown (by simp[Value.oneCell']) (by omega) aO.size;rw[<-hv] at aB bD;have bT:∃cur,Bk w16 G' 72 cur/\cur[q+2]? =some (rv 14).v:=by obtain⟨cur,di⟩:=uQ.out;have h1:Bk w16 G' 72 cur:=Bk.grown (di.keep (Jn.out.block G' hpb)) aB (aO.live.own 14 (by decide)) (by decide);exact⟨cur,h1,by rw[<-di.cell];exact KQ2.out⟩
         obtain⟨J8,bT,sU⟩:=bT;have x9:w16.cell? ⟨G',q+2,none⟩=some (rv 14).v:=(bT.cell _).trans sU;have y9:=bT.frozen (q+2);have L0:(y0.2.map setOf).length=S0.length:=by rw[aqs];exact uO.out.1
         have L1:([gg].map setOf).length=1:=by rw[aqs];exact uO.out.2.1
         have L2:(y2.2.map setOf).length=S2.length:=by rw[aqs];exact uO.out.2.2
         have q9:=tV uV.out (by exact oD.out) (by exact nJ.out) (by decide) (by decide) (own_below (own_below kU.out uY.out) nI);have q10:=tV uV.out (by exact oD.out) (by exact nJ.out) (by decide) (by decide) (own_below (own_below aae.out uY.out) nI);have q11:=tV uV.out (by exact oD.out) (by exact nJ.out) (by decide) (by decide) (own_below (own_below af6.out uY.out) nI);have f9:=uz uV.out (by exact oD.out) (by exact nJ.out) (by decide) (by decide) ((HF9.out.ib (aH uY.out none) (fun g e=>by cases e)).ib (aH nI none) (fun g e=>by cases e));have f10:=uz uV.out (by exact oD.out) (by exact nJ.out) (by decide) (by decide) ((Ja.out.ib (aH uY.out none) (fun g e=>by cases e)).ib (aH nI none) (fun g e=>by cases e));have f11:=uz uV.out (by exact oD.out) (by exact nJ.out) (by decide) (by decide) ((afO.out.ib (aH uY.out none) (fun g e=>by cases e)).ib (aH nI none) (fun g e=>by cases e));rw[<-L0] at q9;rw[<-L1] at q10;rw[<-L2] at q11;have q9':=q9.kept oC (bZ q9 eH.out (by decide));have agJ:=q10.kept oC (bZ q10 eH.out (by decide));have agD:=q11.kept oC (bZ q11 eH.out (by decide));have f9':=f9.ib oC (fun g e=>by cases e;exact⟨_,_,eH.out,by decide⟩);have agB:=f10.ib oC (fun g e=>by cases e;exact⟨_,_,eH.out,by decide⟩);have f11':=f11.ib oC (fun g e=>by cases e;exact⟨_,_,eH.out,by decide⟩);have qc':=HOC.out.kept oC (bZ HOC.out eH.out (by decide));have hdr:oQ.drew.heap.size=oQ.heap.size:=rfl;have ahG:oP.drew.heap.size=oP.heap.size:=rfl;have aib:=jw.out.size;obtain⟨s8,s9,s10,-,Vf,s12,hCl,Rz,WY⟩:=Xz.out;have hrel:=Pe HP.out q9' f9' agJ agB agD f11' aca qc' akh.out HIC.out HIX.out (by omega) (by omega) (by omega) (by omega) (by omega) (by omega) (by omega) (by omega);rw[L0,L1,L2] at hrel;have bP:=hd0 (PSt.apb aO Hs.out H0.out (y:= {dA gl lk.kind y0.2 [gg] y2.2 (ah r3) with out:=o9}) (K':=K+n) aB aZ bD (Fl.one (R:=an7) hrel rfl) (by omega));rw[<-Hq.out] at bP;have HQ:=hd0 (KQ.below (cm:=cm) Jn.out);have tN:=hd0 (Jn.out.mono hB);clear s8 s9 s10 Vf s12 hCl Rz WY hown aZ bD bT sU q9 q10 q11 f9 f10 f11 q9' agJ agD f9' agB f11' qc' aca VO IK oC hrel L0 L1 L2 hdr ahG aib aB aO;go_wp2_with fail
         go_region
         all_goals
          go_wp2;go_ret
          obtain⟨rv',g1,g2,g3⟩:=bP.out;exact anQ.good PD.out (tN.out.trans g3) (HQ.out.trans g2) g1
      have HR:Hid (eF gl s l= .error er):=by show _=_;rw[Qq.out,if_pos her]
      have e1:(er==0)=false:=by simpa using her
      have e2:(er !=0)=true:=by simpa using her
      clear hge her;go_wp2_with fail
      go_ret
      exact anQ.bad HR.out (jw.out.mono hB)
end Go.Proofs.YtkijckccfookeaaGreatDoor
