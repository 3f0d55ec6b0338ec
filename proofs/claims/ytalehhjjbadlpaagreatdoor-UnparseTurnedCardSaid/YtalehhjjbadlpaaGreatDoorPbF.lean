/- Lemmas. -/
import Derived.Test.YtalehhjjbadlpaaGreatDoorX20
set_option linter.all false
set_option maxRecDepth 100000
set_option maxHeartbeats 32000000
namespace Go.Proofs.YtalehhjjbadlpaaGreatDoor
open Go.RowKit
variable{i:List (List P3)}{t l m:Option Addr}{w d:World}{j:List P3}{v u q x:Nat}
section
attribute [-go_sem] Builtin.append_
structure nh (w1 wr:World)(r3:List P3)(A3:Option Addr)(k3 c3:Nat)(S0 S1 S2:List (List P3))(B0 B1 B2:Option Addr)(d0 d1 d2:Nat)(h0 h1 h2:List Value):Prop where
 gi:∃a b c,Bk wr w1.heap.size jD #[a,b,c,A3 k3 c3]
 A:Bk wr (w1.heap.size+1) vR #[B0 S0.length d0,B1 S1.length d1,B2 S2.length d2]
 rd:i7 wr fE A3 k3 3 (dP r3)
 q0:i7 wr Jp B0 S0.length 1 h0
 q1:i7 wr Jp B1 S1.length 1 h1
 q2:i7 wr Jp B2 S2.length 1 h2
 i0:RowsIn fE wr h0 S0
 i1:RowsIn fE wr h1 S1
 i2:RowsIn fE wr h2 S2
theorem qk.three {A0 k wr:List P3}{A3:Option Addr}{c0 c1 c2 c3:Nat}(h:qk d [j,A0,k,wr] [t v c0,l q c1,m x c2,A3 u c3] 3 w):
  Below d d w/\∃e f g,jK j=some e/\jK A0=some f/\jK k=some g/\∃A1 n o X Y Z y z A,nh d w wr A3 u c3 e f g A1 n o X Y Z y z A:=by
 obtain⟨B,C,D,p,A2,E,r⟩:=h;obtain⟨e,A1,X,F,G,f0,H,I⟩:=r 0 j (by omega) rfl;obtain⟨f,n,Y,W,K,s,L,M⟩:=r 1 A0 (by omega) rfl;obtain⟨g,o,Z,N,O,i,P,Q⟩:=r 2 k (by omega) rfl;refine⟨E,e,f,g,G,K,O,A1,n,o,X,Y,Z,F,W,N,⟨_,_,_,D⟩,?_,?_,H,L,P,I,M,Q⟩
 .match B,C,p,f0,s,i with
  |[a,b,c],_,p,f0,s,i=>cases f0;cases s;cases i;exact p
 obtain⟨T,U,V,R,S,-⟩:=A2.2 3 wr rfl;cases R;exact S
theorem nh.below {e s w2:World}{f:List P3}{t:Option Addr}{g c3:Nat}{i j k:List (List P3)}{l m n:Option Addr}{u v w:Nat}{o p q:List Value}(h:nh e s f t g c3 i j k l m n u v w o p q)(d:Below s s w2):nh e w2 f t g c3 i j k l m n u v w o p q:=by obtain⟨a,b,c,r⟩:=h.gi;exact⟨⟨a,b,c,r.keep (d.block _ r.lt)⟩,h.A.keep (d.block _ h.A.lt),h.rd.below d,h.q0.below d,h.q1.below d,h.q2.below d,h.i0.below d,h.i1.below d,h.i2.below d⟩
theorem nh.reader {n:World}{c3:Nat}{s H:List (List P3)}{K:Option Addr}{y z A:List Value}{r p:Nat}{F:Int}(h:nh n w j t q c3 i s H l m K v u x y z A)(B:i8 w r p F)(o:w.grownBy d (some r)):nh n d j t q c3 i s H l m K v u x y z A:=by
 obtain⟨a,b,c,G⟩:=h.gi;have f:∀(L:TypeId),L≠UL->∀g,some r=some g->∃M C,Bk w g C M/\L≠C:=λL N g e=>by
  cases e;exact⟨_,_,B,N⟩
 have D:∀(g:Nat) (L:TypeId) (I:Array Value),Bk w g L I->L≠UL->Bk d g L I:=λg L I E N=>Bk.L o E (λe=>by subst e;exact N (dw E B).1)
 exact⟨⟨a,b,c,D _ _ _ G (by decide)⟩,D _ _ _ h.A (by decide),h.rd.grown o (f _ (by decide)),h.q0.grown o (f _ (by decide)),h.q1.grown o (f _ (by decide)),h.q2.grown o (f _ (by decide)),h.i0.kept λ_ _ _ k=>k.grown o (f _ (by decide)),h.i1.kept λ_ _ _ k=>k.grown o (f _ (by decide)),h.i2.kept λ_ _ _ k=>k.grown o (f _ (by decide))⟩
def vk (kd:Int):Bool:=kd==1||kd==5
theorem Fs (u:Gl)(s:PS){l:List B}{t:List gH}{b:gH}(k:s.f.ge=t++[b]){g i j c:List B}(h:rU l=some [g,i,j,c]){m d n:List (List B)}(o:fK g=some m)(p:fK i=some d)(q:fK j=some n)(a:(vk b.gd && d.length !=1|| !fF b.gd c)=true):gK u s l=.error 22:=by
 unfold gK;rw[k,List.getLast?_append];simp only[List.getLast?_singleton,Option.some_or];rw[h];simp only;rw[o,p,q];simp only;by_cases e:(b.gd=1\/b.gd=5)/\d.length≠1
 .rw[if_pos e]
 rw[if_neg e,if_pos];cases r:fF b.gd c with
 |false=>rfl
 |true=>rw[r]at a;exfalso;apply e;simp only[Bool.not_true,Bool.or_false,np,vk,Bool.or_eq_true,beq_iff_eq,bne_iff_ne]at a;exact a
theorem Co (n:Nat)(b:List P3)(a:List (List P3))(j:List P3)(c:List (List P3))(h:eU n b a j=some c):∀r∈c,r∈a\/∀x∈r,x∈b\/x∈j:=by
 induction j generalizing n b a with
 |nil=>
  rw[eU]at h;split at h
  .cases h;intro r i;rcases jp.1 i with g|g
   .exact .inl g
   simp only[js]at g;subst g;exact .inr λx d=> .inl d
  cases h
 |cons w r f=>
  rw[eU]at h;split at h
  .intro x d;refine(f n (b++[w]) a h x d).imp id λg y e=> ?_
   rcases g y e with g|g
   .rcases jp.1 g with g|g
    .exact .inl g
    simp only[js]at g;exact .inr (by simp[g])
   exact .inr (by simp[g])
  split at h
  .intro x d;rcases f (n+1) [] (a++[b]) h x d with g|g
   .rcases jp.1 g with g|g
    .exact .inl g
    simp only[js]at g;subst g;exact .inr λy e=> .inl e
   refine .inr λy e=> ?_
   rcases g y e with g|g
   .simp at g
   exact .inr (by simp[g])
  cases h
theorem YY (h:mQ j=some i):∀r∈i,∀x∈r,x∈j:=λr b x c=>by
 rcases Co 0 [] [] j i h r b with g|g
 .simp at g
 rcases g x c with g|g
 .simp at g
 exact g
theorem EY {w':World}(a:Below w w w'){p:Addr}{v:Value}(h:w.cell? p=some v):w'.cell? p=some v:=(a.cell (World.block_lt_of_cell? w p h)).trans h
theorem MH (g:Gl)(e:∀t n,g.lookup t=some n->n<=1000000000)(f:Int)(b i a:List (List Int))(d:List B):(∀y∈(dL g f b i a d).out,gN y)/\(∀y∈(dL g f b i a d).gw,gN y.iB/\gN y.lookup)/\gN (dL g f b i a d).x:=by
 unfold dL;simp only;refine⟨?_,?_,?_⟩
 .split
  .intro y c;obtain⟨t,_,rfl⟩:=mN.1 c;exact Il e t
  intro y c;simp at c
 .split
  .intro y c;obtain⟨t,_,rfl⟩:=mN.1 c;exact⟨dU _,dU _⟩
  intro y c;simp at c
 split
 .exact dU _
 exact⟨by omega,by omega⟩
theorem yf (S:List (List P3)):(aT S).length=S.length:=by simp[aT]
theorem ua.shape {w':World}{r:Except Int (List Int)}{e:Ending}(h:ua w r e w'):∃A n c,∃code:Int,e=.returned (.tuple #[.slice A n c,code])/\ua w r (.returned (.tuple #[.slice A n c,code])) w':=by
 obtain⟨a,b⟩:=h;cases r with
 |error c=>exact⟨none,0,0,c,b,a,rfl⟩
 |ok o=>obtain⟨A,c,d,f⟩:=b;exact⟨A,_,c,0,d,a,A,c,rfl,f⟩
theorem Zi (c:Gl)(d:Int)(b i a:List (List Int))(p:List B):(dL c d b i a p).out.length<=p.length:=by unfold dL;simp only;split<;>simp
theorem VF {l a:List Int}{e:Int}(h:gz l a=.error e):e=24\/e=22:=by
 unfold gz at h;split at h
 .injection h with h;exact .inl h.symm
 split at h
 .injection h with h;exact .inr h.symm
 cases h
theorem VG {l d o:List Int}(h:gz l d=.ok o)(b:∀x∈d,gN x):∀x∈o,gN x:=by
 unfold gz at h;split at h
 .cases h
 split at h
 .cases h
 injection h with h
 subst h;intro x a;rw[mN]at a;obtain⟨g,-,rfl⟩:=a;rw[List.getD_eq_getElem?_getD];cases c:d[l.idxOf g]? with
 |none=>exact⟨by decide,by decide⟩
 |some v=>exact b v (kj c)
theorem Vr (w:World)(Bd p gm cm:Nat)(gl:Gl)(s:PS)(rv:Rows)(K:Nat)(A:Option Addr)(n c:Nat)(ws:List P3)(t:B)(l:List B)(hP:ie w Bd p gm cm gl s rv K)(hL:lR w A n ws)(hT:af ws=t::l)(hK:K<=10000000000)(hc:n<=c){fX:List gH}{m:gH}(hs:s.f.ge=fX++[m])(h0:(rv 2).v=.slice (v,0) u x)(hq:q=fX.length*3):
  Calls Tryz.prog 59 #[.pointer (p,0),A n c,.pointer (v,q)] w (iS w Bd p gm cm gl (K+n) (gK gl s l)):=by
 have hn:n=l.length+1:=by rw[<-hL.length];exact dR hT
 have hB:=hP.size;have ev:=hL.i;have ew:=hL.length;obtain⟨A',cn,aa,bE⟩:=hL.sub hc 1 1 rfl (by omega);have aq:=kX hT;have HP:=J hP;obtain⟨M,ex,ci,gv,-,-,ey,lH,Ez,xK⟩:=hP.Bw hs;obtain⟨rfl,ez,rfl⟩:M=v/\fX.length+1=u/\ex=x:=by rw[gv]at h0;simpa using h0
 have ac:M<w.heap.size:=ey;have kq:w.cell? (M,q)=some (.int .i64 m.gd):=by have:=lH 0 (by decide);rw[Nat.add_zero,<-hq]at this;exact this
 have eA:=J kq;have bo:Hid (w.cell? (M,q+2)=some (rv 14).v):=by show _=_;rw[hq];exact lH 2 (by decide)
 have Hs:=J hs;have Hq:=J hq;have H0:=J h0;have yj:=J xK;have HL:=J bE;have KJ:=J aa;have cp:(ws.drop 1).length<=1000000000:=by rw[tw];omega
 have QF:=J cp;have hcut:=J (XV w A' (n - 1) (c - 1) (ws.drop 1) aa (by omega));have fz:1<=n:=by omega
 have bO:=Ve (ws.drop 1);rw[aq]at bO;have ZZ:=J bO;have eB:=J aq;generalize ws.drop 1=eD at*
 clear hP hL hT aa bE hn aq hs hq h0 gv lH Ez xK ez cp bO ew;go_enter Tryz.func59,Tryz.ntmps59
 go_wp2_with fail
 refine hcut.out.mono ?_;rintro e H ⟨aR,A0,k0,c0,A1,k1,c1,A2,k2,c2,A3,k3,c3,j⟩;cases ad:mQ eD with
 |none=>
  have HR:Hid (gK gl s l=.error 22):=Y5 gl s Hs.out (by rw[ZZ.out,ad];rfl);rw[ad]at j;have j:e=_:=j;subst j;have HB:=J ((aR.alloc aR.size (.cells #[A0 k0 c0,A1 k1 c1,A2 k2 c2,A3 k3 c3] jD)).mono hB);clear aR ad;go_wp2;go_ret
  exact iS.bad HR.out HB.out
 |some a7=>
  rw[ad]at j;obtain⟨rfl,a0⟩:e=_/\RowsIn fE H _ a7:=j;have cq:=J (qk.start a0);obtain⟨cs,ct⟩:=Vd ad;obtain⟨r0,r1,r2,z,rfl⟩:∃a b c d,a7=[a,b,c,d]:=by
   match a7,cs with
   |[a,b,c,d],_=>exact⟨a,b,c,d,rfl⟩
  have bp:Hid (rU l=some [af r0,af r1,af r2,af z]):=by show _=_;rw[ZZ.out,ad];rfl
  have yT:=J ct;have tJ:Hid (∀G∈z,G.2.2.length<=800000000):=λG hx=>HL.out G (YY ad z (by simp) G hx)
  have bq:=J aR;have a8:=aR.size;clear aR ad a0 cs ct hcut ZZ;go_wp2_with fail
  go_loopw [26] (λi wr=>∃k:Nat,k<=3/\i=.int .i64 k/\qk H [r0,r1,r2,z] [A0 k0 c0,A1 k1 c1,A2 k2 c2,A3 k3 c3] k wr) (λi _=>3 - (intOf i).toNat)
  case atStart=>exact⟨0,by omega,rfl,cq.out⟩
  case round=>
   obtain⟨k,hk,rfl,bP⟩:=hrel;by_cases eE:k<3
   .obtain⟨cu,l3,b1,b2,a0,hb,hj⟩:=bP;obtain⟨r,ak⟩:∃r,[r0,r1,r2,z][k]?=some r:=⟨_,jO (by simp;omega)⟩
    obtain⟨Ar,kr,cr,cv,bR,fI⟩:=a0.2 k r ak;have q1:wr.cell? (H,k)=some (Ar kr cr):=(b1.cell k).trans (by simpa using cv);have z2:=b2.lt;have fL:(k:Int)<4:=by omega
    have a9:(k:Int)<3:=by omega
    have eI:kr=r.length:=bR.rd.Z.symm;have eJ:=yT.out r (kj ak);have eK:=QF.out;have bH:=J (UQ wr r wr.heap.size Ar kr cr bR.rd (ae _) (by omega));have eL:Hid (qk H [r0,r1,r2,z] [A0 k0 c0,A1 k1 c1,A2 k2 c2,A3 k3 c3] k wr):=⟨cu,l3,b1,b2,a0,hb,hj⟩
    have Y:∃n0,wr.cell? (H.heap.size+1,k)=some n0/\Hid (∀w2,Below wr.heap.size wr w2->w2.cell? (H.heap.size+1,k)=some n0/\w2.frozen? (H.heap.size+1,k)=false/\H.heap.size+1<w2.heap.size):=by
     obtain⟨n0,hu⟩:∃n0,cu[k]?=some n0:=⟨_,jO (by omega)⟩
     refine⟨n0,(b2.cell k).trans (by simpa using hu),λw2 al=> ?_⟩;have bS:=b2.keep (al.block _ b2.lt);exact⟨(bS.cell k).trans (by simpa using hu),bS.frozen k,bS.lt⟩
    obtain⟨n0,qu,Y⟩:=Y;have Hb:=J hb;clear b1 b2 a0 hb hj l3 bR eI eJ eK cv;cases O:jK r with
    |none=>
     have HR:Hid (gK gl s l=.error 22):=Y6 gl s Hs.out bp.out (by
      have h3:k=0\/k=1\/k=2:=by omega
      rcases h3 with rfl|rfl|rfl
      .cases ak;exact .inl (by rw[oP,O];rfl)
      .cases ak;exact .inr (.inl (by rw[oP,O];rfl))
      cases ak;exact .inr (.inr (by rw[oP,O];rfl)))
     have ba:∀e w',iO fE Jp wr r e w'->e=.returned (.tuple #[(),.bool false])/\Below wr.heap.size wr w':=λe w' h=>by unfold iO at h;rw[O]at h;exact h
     have ar:=J ba;clear ba O ak;go_wp2_with fail
     refine bH.out.mono ?_;rintro e w2 j;obtain⟨rfl,al⟩:=ar.out _ _ j;obtain⟨Z,C,y3⟩:=Y.out w2 al;have HB:Hid (Below Bd w (w2.setCell (H.heap.size+1,k) (.slice none 0 0))):=(((bq.out.trans (Hb.out.mono bq.out.size)).trans (al.mono (by omega))).setCell (by simp;omega) _).mono hB;clear j al Y;go_wp2_with fail
     go_ret
     exact iS.bad HR.out HB.out
    |some S=>
     have ba:∀e w',iO fE Jp wr r e w'->∃c9,e=.returned (.tuple #[c9,.bool true])/\yM fE Jp wr w' S c9:=λe w' h=>by unfold iO at h;rw[O]at h;exact h
     have ar:=J ba;have Aj:Hid (∀w2 c9,yM fE Jp wr w2 S c9->qk H [r0,r1,r2,z] [A0 k0 c0,A1 k1 c1,A2 k2 c2,A3 k3 c3] (k+1) (w2.setCell (H.heap.size+1,k) c9)):=λw2 c9 aM=>eL.out.next eE ak O aM
     clear ba O ak;go_wp2_with fail
     refine bH.out.mono ?_;rintro e w2 j;obtain⟨c9,rfl,aM⟩:=ar.out _ _ j;have uC:=J (Aj.out w2 c9 aM);obtain⟨A9,x,h9,rfl,-,-,al⟩:=aM;obtain⟨Z,C,y3⟩:=Y.out w2 al;clear j al Y Aj;go_wp2_with fail
     go_roundw
     case rel=>exact⟨k+1,by omega,by simp,uC.out⟩
     case measure=>simp[intOf];omega
   obtain rfl:k=3:=by omega
   obtain⟨bT,I,E,U,e0,e1,e2,B0,B1,B2,d0,d1,d2,h0,h1,h2,cw⟩:=bP.three;have av:=J cw;have bV:Hid (fK (af r0)=some (aT I)):=by show _=_;rw[oP,e0];rfl
   have Ej:Hid (fK (af r1)=some (aT E)):=by show _=_;rw[oP,e1];rfl
   have ar:Hid (fK (af r2)=some (aT U)):=by show _=_;rw[oP,e2];rfl
   have HE:=J (And.intro (yK e0) (And.intro (yK e1) (yK e2)));have cx:=J (bT.mono a8);have a1:Hid (Below w w wr):=bq.out.trans cx.out;have z3:=bT.size;have kd:wr.cell? (M,q)=some (.int .i64 m.gd):=((aj a1.out).1 _ _ ac).trans kq;have zG:M<wr.heap.size:=by omega
   clear bP e0 e1 e2 cw bT cn cq kq
   go_upto_region 12 with fail
   go_cut [11]from 18 to 135 (λa2 wx=>a2=.bool (vk m.gd)/\wr=wx)
   case first=>
    by_cases L9:m.gd=1
    .have hb:Hid (vk m.gd=true):=by show _=_;rw[L9];rfl
     have e1:(m.gd==1)=true:=by simp[L9]
     clear L9;go_wp2_with fail
     go_meet
     exact⟨by rw[hb.out],rfl⟩
    have e1:(m.gd==1)=false:=by simpa using L9
    have hb:Hid (vk m.gd=(m.gd==5)):=by show _=_;unfold vk;rw[e1];rfl
    clear L9;go_wp2_with fail
    go_meet
    exact⟨by rw[hb.out],rfl⟩
   case rest=>
    obtain⟨rfl,eM⟩:=hcut;subst eM;have m1:wr.cell? (H.heap.size+1,1)=some (B1 E.length d1):=av.out.A.cell 1;have x3:wr.cell? (H,3)=some (A3 k3 c3):=by obtain⟨a,b,c,h⟩:=av.out.gi;exact h.cell 3
    have zP:H.heap.size+1<wr.heap.size:=av.out.A.lt;have a9:k3=z.length:=av.out.rd.rd.Z.symm;have Yq:k3<=1000000000:=by have h1:=yT.out z (by simp);have h2:=QF.out;omega
    have Ym:∀G:iX (λc9=>Below wr.heap.size wr c9),Calls Tryz.prog 103 #[m.gd,A3 k3 c3] G.w λe bW=>e=.returned (.bool (fF m.gd (af z)))/\∃y:iX (λc9=>Below wr.heap.size wr c9),bW=y.w:=λG=>(Dm G.w m.gd A3 k3 c3 z (av.out.rd.below G.ok) tJ.out Yq).mono λe bW ⟨h1,h2⟩=>⟨h1,⟨⟨bW,G.ok.trans (h2.mono G.ok.size)⟩,rfl⟩⟩
    have eN:∀G:iX (λc9=>Below wr.heap.size wr c9),G.w.cell? (M,q)=some (.int .i64 m.gd):=λG=>EY G.ok kd
    have eO:∀G:iX (λc9=>Below wr.heap.size wr c9),G.w.cell? (H.heap.size+1,1)=some (B1 E.length d1):=λG=>EY G.ok m1
    have eR:∀G:iX (λc9=>Below wr.heap.size wr c9),G.w.cell? (H,3)=some (A3 k3 c3):=λG=>EY G.ok x3
    clear a9;generalize bK:fF m.gd (af z)=ab at*
    generalize je:vk m.gd=ob at*
    have XI:=J bK;have bb:=J je;clear bK je
    go_upto_region 13 with fail
    go_cut [69]from 18 to 135 (λeS wx=>eS=.bool (ob && E.length !=1|| !ab)/\Below wr.heap.size wr wx)
    case first=>
     cases ob with
     |true=>
      by_cases aQ:E.length=1
      .have e1:((E.length:Int) !=1)=false:=by simp[aQ]
       have e2:Hid ((E.length !=1)=false):=J (by simp[aQ]);clear aQ;go_wp2_with fail
       refine dB (λc9=>Below wr.heap.size wr c9) (by kernel_rfl) (by kernel_rfl) ((gD wr.heap.size wr).drew) ?_;have dm:Nonempty (iX (λc9=>Below wr.heap.size wr c9)):=⟨⟨_,((gD wr.heap.size wr).drew)⟩⟩
       repeat(go_big_quiet_step (exact Ym _))
       refine wpQuiet_nil ?_;intro _ bX;obtain⟨xq,bc⟩:=bX;subst bc;go_wp2
       go_meet
       exact⟨by rw[e2.out];simp,xq.ok⟩
      have e1:((E.length:Int) !=1)=true:=by simp;omega
      have e2:Hid ((E.length !=1)=true):=J (by simp;omega);clear aQ;go_wp2_with fail
      go_quiet (fail)
      go_wp2
      go_meet
      exact⟨by rw[e2.out];simp,below_drewN (gD _ _) _⟩
     |false=>
      go_wp2_with fail
      refine dB (λc9=>Below wr.heap.size wr c9) (by kernel_rfl) (by kernel_rfl) ((gD wr.heap.size wr).drew) ?_;have dm:Nonempty (iX (λc9=>Below wr.heap.size wr c9)):=⟨⟨_,((gD wr.heap.size wr).drew)⟩⟩
      repeat(go_big_quiet_step (exact Ym _))
      refine wpQuiet_nil ?_;intro _ bX;obtain⟨xq,bc⟩:=bX;subst bc;go_wp2
      go_meet
      exact⟨by simp,xq.ok⟩
    case rest=>
     obtain⟨rfl,aw⟩:=hcut;cases F:(ob && E.length !=1|| !ab)with
     |true=>
      have HR:Hid (gK gl s l=.error 22):=Fs gl s Hs.out bp.out bV.out Ej.out ar.out (by rw[bb.out,XI.out,yf];exact F);have HB:=J ((a1.out.trans (aw.mono a1.out.size)).mono hB);clear F aw;go_wp2_with fail
      go_ret
      exact iS.bad HR.out HB.out
     |false=>
      have b0:=J (av.out.below aw);have b3:Hid (Below w w wc):=a1.out.trans (aw.mono a1.out.size);have eT:=EY aw kd;have z4:=aw.size;have cy:I.length<=1000000000/\E.length<=1000000000/\U.length<=1000000000:=by obtain⟨⟨g0,-⟩,⟨g1,-⟩,⟨g2,-⟩⟩:=HE.out;have f0:=yT.out r0 (by simp);have f1:=yT.out r1 (by simp);have f2:=yT.out r2 (by simp);have hd:=QF.out;omega
      have QH:=J cy;have br:Hid ((∀r∈I,r.length<=1000000000)/\(∀r∈E,r.length<=1000000000)/\(∀r∈U,r.length<=1000000000)):=by obtain⟨⟨-,g0⟩,⟨-,g1⟩,⟨-,g2⟩⟩:=HE.out;have f0:=yT.out r0 (by simp);have f1:=yT.out r1 (by simp);have f2:=yT.out r2 (by simp);have hd:=QF.out;exact⟨λr hr=>by have:=g0 r hr;omega,λr hr=>by have:=g1 r hr;omega,λr hr=>by have:=g2 r hr;omega⟩
      have QG:=J (λN l=>Xh gl s.ia HP.out.m HP.out.BW N [] (by simp) l);clear kd m1 x3 eN eO eR Ym aw cy;go_wp2_with fail
      refine(iE wc p).mono ?_;rintro e w5 ⟨rfl,qP,bd⟩;have fQ:Hid (Below w w w5):=b3.out.trans (bd.mono b3.out.size);have bg:=b0.out.below bd;have cz:=(HP.out.below fQ.out).at;have z5:=bd.size;have m0:w5.cell? (H.heap.size+1,0)=some (B0 I.length d0):=bg.A.cell 0;have m1:w5.cell? (H.heap.size+1,1)=some (B1 E.length d1):=bg.A.cell 1;have m2:w5.cell? (H.heap.size+1,2)=some (B2 U.length d2):=bg.A.cell 2;have Nh:Hid (∀W N B n d S h,i8 W wc.heap.size p N->ph W p gm cm gl s.ia->i7 W Jp B n 1 h->RowsIn fE W h S->n<=1000000000->(∀r∈S,r.length<=1000000000)->Calls Tryz.prog 104 #[.pointer (wc,0),.slice B n d] W (λe w'=>∃c9,e=.returned c9/\tt W wc.heap.size p (aS gl s.ia N (aT S)).1 n (aS gl s.ia N (aT S)).2 c9 w')):=λW N B n d S h g1 g2 g3 g4 g5 g6=>r' W wc.heap.size p gm cm gl s.ia N B n d S h g1 g2 g3 g4 g5 g6 QG.out
      have VR:=J qP;have EO:=J bg;have ZQ:=J cz;have eV:=J bd;clear qP bg cz bd;go_wp2_with fail
      go_region_held3 (λw'=>w'.cell? (H.heap.size+1,0)=some (B0 I.length d0)/\w'.cell? (H.heap.size+1,1)=some (B1 E.length d1)/\w'.cell? (H.heap.size+1,2)=some (B2 U.length d2))
       (first
        |exact⟨I8.out.A.cell 0,I8.out.A.cell 1,I8.out.A.cell 2⟩
        |exact⟨xE.out.A.cell 0,xE.out.A.cell 1,xE.out.A.cell 2⟩
        |exact⟨Ak.out.A.cell 0,Ak.out.A.cell 1,Ak.out.A.cell 2⟩
        |exact⟨m0,m1,m2⟩
        |go_keep)
       (first
        |(go_at_call 104;refine(Nh.out w7 _ _ _ _ U h2 bh.out cA.out xE.out.q2 xE.out.i2 QH.out.2.2 br.out.2.2).mono ?_;rintro e w8 ⟨v8,rfl,A8,c8,eW,rfl,cB,cC,cD,ED⟩;have I8:=J (xE.out.reader bh.out ED);have cE:=J cB;have cF:=J cC;have cG:=J cD;have bs:=J ED;clear cB cC cD ED)
        |(go_at_call 104;refine(Nh.out w6 _ _ _ _ E h1 bj.out b4.out Ak.out.q1 Ak.out.i1 QH.out.2.1 br.out.2.1).mono ?_;rintro e w7 ⟨v7,rfl,A7,c7,cH,rfl,cJ,cK,cL,LY⟩;have xE:=J (Ak.out.reader bj.out LY);have cA:=J (b4.out.reader bj.out LY);have cM:=J cJ;have Ee:=J cK;have bh:=J cL;have b5:=J LY;clear cJ cK cL LY)
        |(go_at_call 104;refine(Nh.out w5.drew _ _ _ _ I h0 (by exact VR.out) (by exact(ZQ.out.keep (w':=w5.drew) (λ_ _ _ _ _=>rfl) (λ_ _ _ _=>rfl))) (by exact EO.out.q0.below (gD _ w5).drew) (by exact EO.out.i0.below (gD _ w5).drew) QH.out.1 br.out.1).mono ?_;rintro e w6 ⟨v6,rfl,A6,c6,eZ,rfl,WH,cN,cP,NJ⟩;have FB:w5.grownBy w6 (some wc.heap.size):=⟨NJ.os,NJ.tape,NJ.output,NJ.size,NJ.block⟩;have Ak:=J (EO.out.reader VR.out FB);have b4:=J (ZQ.out.reader VR.out FB);have cQ:=J WH;have cR:=J cN;have bj:=J cP;have cS:=J FB;clear WH cN cP FB NJ))
      have cT:Hid (nL w5.drew.heap.size A6 I.length eZ (aS gl s.ia 0 (aT I)).2 w8):=((nL.mk' cQ.out cR.out).reader bj.out b5.out).reader bh.out bs.out;have b6:Hid (nL w6.heap.size A7 E.length cH (aS gl s.ia (aS gl s.ia 0 (aT I)).1 (aT E)).2 w8):=(nL.mk' cM.out Ee.out).reader bh.out bs.out;have cU:Hid (nL w7.heap.size A8 U.length eW (aS gl s.ia (aS gl s.ia (aS gl s.ia 0 (aT I)).1 (aT E)).1 (aT U)).2 w8):=nL.mk' cE.out cF.out;have jc:w.heap.size<=wc.heap.size:=by omega
      have lL:Hid (Below w w w8):=bu (bu (bu fQ.out cS.out jc) b5.out jc) bs.out jc;have bv:Hid (∀N l,∀r∈(aS gl s.ia N l).2,r.length<=1000000000):=λN l=>Jo gl s.ia (λr=>r.length<=1000000000) (λN l=>nt (Nf gl s.ia HP.out.asf N [] (by simp) l) (by omega)) N l
      have bw:Hid (∀N l,∀r∈(aS gl s.ia N l).2,∀G∈r,gN G):=λN l=>Jo gl s.ia (λr=>∀G∈r,gN G) (λN l=>QG.out N l) N l
      have cW:(aS gl s.ia 0 (aT I)).2.length=I.length:=by rw[Bz,yf]
      have cX:(aS gl s.ia (aS gl s.ia 0 (aT I)).1 (aT E)).2.length=E.length:=by rw[Bz,yf]
      have cY:(aS gl s.ia (aS gl s.ia (aS gl s.ia 0 (aT I)).1 (aT E)).1 (aT U)).2.length=U.length:=by rw[Bz,yf]
      have xB:=J (And.intro cW (And.intro cX cY));have c4:=bv.out 0 (aT I);have da:=bw.out 0 (aT I);have db:=bv.out (aS gl s.ia 0 (aT I)).1 (aT E);have dc:=bw.out (aS gl s.ia 0 (aT I)).1 (aT E);have dd:=bv.out (aS gl s.ia (aS gl s.ia 0 (aT I)).1 (aT E)).1 (aT U);have de:=bw.out (aS gl s.ia (aS gl s.ia 0 (aT I)).1 (aT E)).1 (aT U);have df:=Ft gl s Hs.out bp.out bV.out Ej.out ar.out;clear cW cX cY;have dg:=J df;clear df;generalize dh:aS gl s.ia 0 (aT I)=er at*
      generalize dj:aS gl s.ia er.1 (aT E)=Z at*
      generalize dk:aS gl s.ia Z.1 (aT U)=C at*
      have e3:=J dh;have b7:=J dj;have b8:=J dk;clear dh dj dk;have ZO:=J (And.intro c4 (And.intro db dd));have bx:=J (And.intro da (And.intro dc de));clear c4 db dd da dc de Nh ZQ b4 cA cQ cM cE cR Ee cF VR bj bh EO Ak xE eV m0 m1 m2;have dl:=J (cT.out.N (c:=c6) QH.out.1 ZO.out.1 bx.out.1);go_wp2_with fail
      refine dl.out.mono ?_;rintro e w9 ⟨v9,rfl,A9,x,e4,rfl,aW,WB,bf⟩;have dn:=J ((b6.out.below bf).N (c:=c7) QH.out.2.1 ZO.out.2.1 bx.out.2.1);go_wp2_with fail
      refine dn.out.mono ?_;rintro e fN ⟨fR,rfl,Kz,aD,dp,rfl,SY,dq,oK⟩;have dr:=J (((cU.out.below bf).below oK).N (c:=c8) QH.out.2.2 ZO.out.2.2 bx.out.2.2);go_wp2_with fail
      refine dr.out.mono ?_;rintro e X ⟨fS,rfl,QD,aE,fy,rfl,ds,dt,iG⟩;have bk:ab=true:=by
       cases ab with
       |true=>rfl
       |false=>rw[Bool.not_false,Bool.or_true]at F;cases F
      have bL:¬((m.gd=1\/m.gd=5)/\(aT E).length≠1):=by
       rintro⟨g1,g2⟩;have h1:vk m.gd=true:=by unfold vk;rcases g1 with g|g<;>rw[g]<;>rfl
       have h2:ob=true:=by rw[<-bb.out,h1]
       rw[yf]at g2;rw[h2,bk]at F;simp at F;exact g2 F
      have a3:=dg.out bL (by rw[XI.out,bk]);have QM:Hid (gK gl s l=if mr gl m.gd C.1 (af z)≠0 then .error (mr gl m.gd C.1 (af z))else Cm s m.gd Z.2 (dL gl m.gd er.2 Z.2 C.2 (af z))):=by
       show _=_
       first
        |exact a3
        |(rw[b7.out,b8.out]at a3;exact a3)
        |(subst_vars;exact a3)
        |(rw[<-b8.out,<-b7.out];exact a3)
      have s8:=lL.out.size;have uw:Hid (Below w w X):=((lL.out.trans (bf.mono s8)).trans (oK.mono (nt s8 bf.size))).trans (iG.mono (nt s8 (nt bf.size oK.size)));have a2:=uw.out.size;have Bo:=J (((I8.out.below bf).below oK).below iG);have du:=J (((cG.out.below bf).below oK).below iG);have mf:=J (gj (gj aW oK) iG);have b9:=J (gj SY iG);have dv:=J ds;have dx:Hid (Fl gT 1 X (IB w8.heap.size X) e4 (er.2.map setOf)):=(WB.ib (az oK none) (λg e=>by cases e)).ib (az iG none) (λg e=>by cases e);have MZ:Hid (Fl gT 1 X (IB w9.heap.size X) dp (Z.2.map setOf)):=dq.ib (az iG none) (λg e=>by cases e);have dy:=J dt;have s9:=bf.size;have a4:=oK.size;have Zr:=iG.size;have XE:=J (((b6.out.below bf).below oK).below iG);have e5:gm<w.heap.size:=HP.out.r.lt;have e6:p<w.heap.size:=HP.out.par.lt;have dz:Hid (fF m.gd (af z)=true):=by show _=_;rw[XI.out,bk]
      have dG:Hid (ob=true->E.length=1):=λe=>by
       rw[e,bk]at F;simpa using F
      clear a3 bL bf oK iG aW SY ds WB dq dt dl dn dr cT cU bk F;go_wp2_with fail
      obtain⟨V,Fg⟩:∃V,X.alloc (.cells #[A9 I.length x,Kz E.length aD,QD U.length aE,(),(),.int .i64 0] oU)=V:=⟨_,rfl⟩
      rw[Fg];have aL:Below X X V:=Fg ▸ (gD _ _).alloc (ae _) _;have yA:=J aL;have pW:Hid (Bk V X.heap.size oU #[A9 I.length x,Kz E.length aD,QD U.length aE,(),(),.int .i64 0]):=Fg ▸ Bk.new _ _ _;have Js:=J (Bo.out.below aL);have qI:=J (du.out.below aL);have vT:Hid (Below w w V):=uw.out.trans (aL.mono a2);have ca:V.cell? (M,q)=some (.int .i64 m.gd):=EY aL (((aj uw.out).1 _ _ ac).trans eA.out);have cb:V.cell? (H,3)=some (A3 k3 c3):=by obtain⟨a,b,c,h⟩:=Js.out.gi;exact h.cell 3
      have bz:=aL.size;have bA:=pW.out.lt;have dN:=J ((HP.out.below vT.out).at.gm);have bM:=J (sM V.drew X.heap.size wc.heap.size p gm gl m.gd C.1 (A9 I.length x) (Kz E.length aD) (QD U.length aE) A3 k3 c3 z (by exact pW.out) (by exact qI.out) (dN.out.below (gD _ V).drew) (by show p<V.heap.size;omega) (by omega) (by omega) (by omega) (by omega) (by exact Js.out.rd.below (gD _ V).drew) tJ.out Yq dz.out er.2 Z.2 C.2);have e7:H.heap.size<X.heap.size:=by obtain⟨a,b,c,h⟩:=Bo.out.gi;exact h.lt
      have e8:H.heap.size<wc.heap.size:=by obtain⟨a,b,c,h⟩:=b0.out.gi;exact h.lt
      clear aL Fg;go_wp2_with fail
      try rw[Fg]
      go_region_held3 (λw'=>w'.cell? (M,q)=some (.int .i64 m.gd)/\w'.cell? (H,3)=some (A3 k3 c3))
       (first
        |exact⟨ca,cb⟩
        |exact⟨dT,d3⟩
        |go_keep)
       (first
        |(go_at_call 106;refine bM.out.mono ?_;rintro e rG ⟨rfl,bB⟩;have dT:rG.cell? (M,q)=some (.int .i64 m.gd):=(World.cell?_of_block (a:=(M,q)) (bB.two.block M (by show M<V.heap.size;omega) (by omega) (by omega))).trans ca;have d3:rG.cell? (H,3)=some (A3 k3 c3):=(World.cell?_of_block (a:=(H,3)) (bB.two.block H.heap.size (by show H.heap.size<V.heap.size;omega) (by omega) (by omega))).trans cb;have d4:=J bB;clear bB))
      obtain⟨⟨Ao,co,Ac,cc,d5,d6,d7⟩,aa,cd⟩:=d4.out;have Su:Below w w rG:=oe.below (a:=wc.heap.size) (b:=X.heap.size) (w:=V.drew) ⟨vT.out.os,vT.out.tape,vT.out.output,vT.out.size,vT.out.block⟩ cd (by omega) (by omega);have fa:rG.cell? (wc,1)=some (.int .i64 (mr gl m.gd C.1 (af z))):=aa.cell 1;have ZK:wc.heap.size<rG.heap.size:=aa.lt;have uy:=J Su;have eX:=J d5;have d8:=J d6;have ce:=J d7;have fb:=J aa;have yC:=J cd;clear Su d5 d6 d7 aa cd d4;generalize d9:mr gl m.gd C.1 (af z)=N at*
      by_cases bl:N=0
      .subst bl;have QN:Hid (gK gl s l=Cm s m.gd Z.2 (dL gl m.gd er.2 Z.2 C.2 (af z))):=by show _=_;rw[QM.out,if_neg (by simp)]
       clear d9;cases ob with
       |false=>
        have XD:Hid (gK gl s l=.ok (nY s λG=> {G with gC:=G.gC++[dL gl m.gd er.2 Z.2 C.2 (af z)]})):=by
         show _=_;rw[QN.out];unfold Cm;have fc:¬(m.gd=1\/m.gd=5):=by intro g;have h9:=bb.out;unfold vk at h9;rcases g with g|g<;>rw[g]at h9<;>cases h9
         rw[if_neg fc]
        have aN:=HP.out.below uy.out;obtain⟨ZL,bm,hv⟩:=aN.slice (i:=14) (by decide);have ea:=aN.i 14 (by decide);have P:=aN.live.own 14 (by decide);rw[hv]at P;have Au:rG.cell? (M,q+2)=some (ZL (rv 14).n bm):=by rw[<-hv];exact((aj uy.out).1 _ _ ac).trans bo.out
        have yD:=eX.out.cell 0;have Am:=eX.out.cell 1;have En:=eX.out.cell 2;have EU:=eX.out.cell 3;have Lj:=eX.out.cell 4;have Ll:=eX.out.cell 5;simp only[List.getElem?_toArray,oX,oj]at yD Am En EU Lj Ll;have zp:M<rG.heap.size:=mz ac uy.out.size;obtain⟨A5,c5,zV,eb,aW,ay,bF⟩:=jh zu 63 rG Bd _ bm ZL _ #[A9 I.length x,Kz E.length aD,QD U.length aE,Ao (dL gl m.gd er.2 Z.2 C.2 (af z)).out.length co,Ac (dL gl m.gd er.2 Z.2 C.2 (af z)).gw.length cc,.int .i64 (dL gl m.gd er.2 Z.2 C.2 (af z)).x] rfl P (by simp[Value.oneCell']) (by omega) aN.size;rw[<-hv]at ay bF;have cZ:∃Q,Bk zV M 65 Q/\Q[q+2]?=some (rv 14).v:=by obtain⟨Q,bf⟩:=yj.out;have h1:Bk zV M 65 Q:=Bk.grown (bf.keep (uy.out.block M ac)) ay (aN.live.own 14 (by decide)) (by decide);exact⟨Q,h1,by rw[<-bf.cell];exact bo.out⟩
        obtain⟨Np,cZ,vP⟩:=cZ;have x9:zV.cell? (M,q+2)=some (rv 14).v:=(cZ.cell _).trans vP;have y9:=cZ.frozen (q+2);obtain⟨io,ic,ix⟩:=MH gl HP.out.m m.gd er.2 Z.2 C.2 (af z);have pX:=(gD V.heap.size V).drew;have L0:(er.2.map setOf).length=I.length:=by rw[lE];exact xB.out.1
        have L1:(Z.2.map setOf).length=E.length:=by rw[lE];exact xB.out.2.1
        have L2:(C.2.map setOf).length=U.length:=by rw[lE];exact xB.out.2.2
        have q9:=wO yC.out (by exact qI.out) (by exact pW.out) (by decide) (by decide) (gj (gj mf.out yA.out) pX);have T:=wO yC.out (by exact qI.out) (by exact pW.out) (by decide) (by decide) (gj (gj b9.out yA.out) pX);have ao:=wO yC.out (by exact qI.out) (by exact pW.out) (by decide) (by decide) (gj (gj dv.out yA.out) pX);have f9:=xP yC.out (by exact qI.out) (by exact pW.out) (by decide) (by decide) ((dx.out.ib (az yA.out none) (λg e=>by cases e)).ib (az pX none) (λg e=>by cases e));have ap:=xP yC.out (by exact qI.out) (by exact pW.out) (by decide) (by decide) ((MZ.out.ib (az yA.out none) (λg e=>by cases e)).ib (az pX none) (λg e=>by cases e));have bn:=xP yC.out (by exact qI.out) (by exact pW.out) (by decide) (by decide) ((dy.out.ib (az yA.out none) (λg e=>by cases e)).ib (az pX none) (λg e=>by cases e));rw[<-L0]at q9;rw[<-L1]at T;rw[<-L2]at ao;have cf:V.drew.heap.size=V.heap.size:=rfl;have hrel:=Uu HP.out q9 f9 T ap ao bn d8.out ce.out io ic ix (by omega) (by omega) (by omega) (by omega) (by omega) (by omega) (by omega) (by omega);rw[L0,L1,L2]at hrel;have bZ:=J (ie.By aN Hs.out H0.out (y:=dL gl m.gd er.2 Z.2 C.2 (af z)) (K':=K+n) ay aW bF (Fl.one (R:=lj) hrel rfl) (by omega));rw[<-Hq.out]at bZ;have HQ:=J (KQ.below (cm:=cm) uy.out);have vU:=J (uy.out.mono hB);have QO:Hid (gK gl s l=.ok {s with f:= {s.f with ge:=fX++[{m with gC:=m.gC++[dL gl m.gd er.2 Z.2 C.2 (af z)]}]}}):=by show _=_;rw[XD.out,Me s _ Hs.out]
        clear P aW bF cZ vP q9 T ao f9 ap bn hrel io ic ix L0 L1 L2 cf pX ay aN;go_wp2_with fail
        go_region
        all_goals
         go_wp2;go_ret
         obtain⟨fd,g1,g2,g3⟩:=bZ.out;exact iS.O QO.out (vU.out.trans g3) (HQ.out.trans g2) g1
       |true=>
        have a8:=dG.out rfl;obtain⟨L,fe⟩:∃L,Z.2=[L]:=by
         have h9:=xB.out.2.1;rw[a8]at h9
         match Z.2,h9 with
         |[a],_=>exact⟨a,rfl⟩
        clear dG;generalize ff:Z.2=yy at*
        generalize fg:E.length=m1 at*
        subst fe a8;clear ff fg;have XD:Hid (gK gl s l=match gz L (dL gl m.gd er.2 [L] C.2 (af z)).out with
          | .error e=> .error e
          | .ok o=> .ok (nY s λG=> {G with gC:=G.gC++[{dL gl m.gd er.2 [L] C.2 (af z)with out:=o}]})):=by
         show _=_;rw[QN.out];unfold Cm;have ec:m.gd=1\/m.gd=5:=by have h9:=bb.out;unfold vk at h9;simpa using h9
         rw[if_pos ec];rfl
        have pX:=(gD V.heap.size V).drew;have ee:nL w6.heap.size A7 1 cH [L] rG:=⟨yC.out.rS (by exact qI.out) (by exact pW.out) (by decide) (by decide) ((XE.out.rd.below yA.out).below pX),xP yC.out (by exact qI.out) (by exact pW.out) (by decide) (by decide) ((XE.out.V.ib (az yA.out none) (λg e=>by cases e)).ib (az pX none) (λg e=>by cases e))⟩
        have T:=wO yC.out (by exact qI.out) (by exact pW.out) (by decide) (by decide) (gj (gj b9.out yA.out) pX);have ap:=xP yC.out (by exact qI.out) (by exact pW.out) (by decide) (by decide) ((MZ.out.ib (az yA.out none) (λg e=>by cases e)).ib (az pX none) (λg e=>by cases e));have ef:=nL.mk' T ap;obtain⟨b1,o1,fh,fi,rfl,fT,g1,R1⟩:=ee.first (by omega);obtain⟨b2,o2,fj,fk,rfl,fU,g2,R2⟩:=ef.first (by omega);have h1:=eX.out.cell 1;have h3:=eX.out.cell 3;have y3:=eX.out.frozen 3;simp only[List.getElem?_toArray,oX,oj]at h1 h3;have zc:=eX.out.lt;have a9:=Js.out.rd.rd.Z;have eg:(dL gl m.gd er.2 [L] C.2 (af z)).out.length<=1000000000:=nt (Zi _ _ _ _ _ _) (by rw[ji,a9];exact Yq);have cg:L.length<=1000000000:=ZO.out.2.1 L (by simp);have O:=nt (PE L) cg;obtain⟨io,ic,ix⟩:=MH gl HP.out.m m.gd er.2 [L] C.2 (af z);have R3:Rd rG rG.heap.size Ao (dL gl m.gd er.2 [L] C.2 (af z)).out.length 1 (aC (dL gl m.gd er.2 [L] C.2 (af z)).out):=(jX d8.out).rd;have eh:=Zw rG.drew fh fj Ao _ _ _ fi fk co L (setOf L) (dL gl m.gd er.2 [L] C.2 (af z)).out rfl (by exact R1) (by exact R2) (by exact R3) cg O eg;have fm:=J io;have fn:=J ic;have fo:=J ix;clear io ic ix R1 R2 R3 eg cg O a9 ee ef T ap;generalize ei:(dL gl m.gd er.2 [L] C.2 (af z)).out=ro at*
        have fp:=J ei;clear ei;go_wp2_with fail
        have rO:=J (And.intro s8 (And.intro s9 (And.intro a4 (And.intro a2 (And.intro Zr (And.intro bz (And.intro bA (And.intro jc ZK))))))));clear s8 s9 a4 Zr bz bA jc ZK z3 z4 z5 zG zP e7 e8 e5 e6 a8 ev hc eT ca cb dT d3 fa;clear av b0 b3 fQ lL cS b5 bs bv bw QG dg cG e3 b7 b8 du I8 dN b6 XE bM HE bV Ej ar bp yT eB KJ QF HL bq cx a1 bx dz QM QN Bo Js tJ Yq XI ZO QH fp fb bb br;have fq:=J eh;have ch:=J (gD rG.heap.size rG).drew;clear eh;go_cut [17]from 109 to 122 (λfr wx=>∃lQ BD a5 BJ code,fr=.int .i64 code/\wx=lQ.setCell (X,3) (.slice BD a5 BJ)/\ua rG.drew (gz L ro) (.returned (.tuple #[.slice BD a5 BJ,.int .i64 code])) lQ)
        case first=>
         go_region_with (go_at_call 107;refine fq.out.mono ?_;rintro e lQ j;obtain⟨BD,a5,BJ,code,rfl,j⟩:=j.shape;have oL:=j.1;have a6:=eX.out.keep (oL.block _ zc);have x9:=(a6.cell 3).trans rfl;have y9:=a6.frozen 3;have xC:=J j;clear oL a6 j)
         all_goals
          go_wp2_with fail
          go_meet
          exact⟨lQ,BD,a5,BJ,code,rfl,rfl,xC.out⟩
        case rest=>
        obtain⟨lQ,BD,a5,BJ,code,rfl,rfl,j⟩:=hcut;have a6:Bk lQ X.heap.size oU #[A9 I.length x,.slice (b2,o2) 1 aD,QD U.length aE,Ao ro.length co,Ac (dL gl m.gd er.2 [L] C.2 (af z)).gw.length cc,.int .i64 (dL gl m.gd er.2 [L] C.2 (af z)).x]:=eX.out.keep (j.1.block _ zc);have ej:=J a6;have Jq:=J j.1;clear a6 g1 g2 h1 h3 y3;cases D:gz L ro with
        |error e9=>
         rw[D]at j;have fW:(code !=0)=true:=by have:=j.2;simp only[Ending.returned.injEq,Value.tuple.injEq]at this;simp only[Array.mk.injEq,tA,Value.int.injEq,true_and,and_true]at this;have h9:code=e9:=this.2;subst h9;rcases VF D with rfl|rfl<;>rfl
         have ek:code=e9:=by have:=j.2;simp only[Ending.returned.injEq,Value.tuple.injEq,Array.mk.injEq,tA,Value.int.injEq,true_and,and_true]at this;exact this.2
         have QO:Hid (gK gl s l=.error code):=by show _=_;rw[XD.out,D,ek]
         clear j D ek;go_wp2_with fail
         go_ret
         exact iS.bad QO.out (((uy.out.trans (ch.out.mono uy.out.size)).trans (Jq.out.mono uy.out.size)).setCell (by obtain⟨s8,s9,a4,a2,-⟩:=rO.out;omega) _|>.mono hB)
        |ok o9=>
         rw[D]at j;obtain⟨fs,ft,cj,NP⟩:=j.2;have fu:BD=fs/\a5=o9.length/\BJ=ft/\code=0:=by simp only[Ending.returned.injEq,Value.tuple.injEq]at cj;simpa [and_assoc]using cj
         obtain⟨rfl,rfl,rfl,rfl⟩:=fu;have el:=J NP;have fv:=J (VG D fm.out);have QO:Hid (gK gl s l=.ok {s with f:= {s.f with ge:=fX++[{m with gC:=m.gC++[{dL gl m.gd er.2 [L] C.2 (af z)with out:=o9}]}]}}):=by show _=_;rw[XD.out,D];simp only;rw[Me s _ Hs.out]
         have Yn:Bk (lQ.setCell (X,3) (.slice BD o9.length BJ)) X.heap.size oU #[A9 I.length x,.slice (b2,o2) 1 aD,QD U.length aE,.slice BD o9.length BJ,Ac (dL gl m.gd er.2 [L] C.2 (af z)).gw.length cc,.int .i64 (dL gl m.gd er.2 [L] C.2 (af z)).x]:=ej.out.set 3 _;have qO:rG.grownBy (lQ.setCell (X,3) (.slice BD o9.length BJ)) (some X.heap.size):=dI (az ch.out _) (dI (az Jq.out _) (fZ lQ _ _));have ck:=el.out.kept (fZ lQ (X,3) (.slice BD o9.length BJ)) (dC el.out ej.out (by decide));have sQ:Below w w (lQ.setCell (X,3) (.slice BD o9.length BJ)):=((uy.out.trans (ch.out.mono uy.out.size)).trans (Jq.out.mono uy.out.size)).setCell (by obtain⟨s8,s9,a4,a2,-⟩:=rO.out;omega) _;clear j D cj NP;obtain⟨zV,em⟩:∃G,(lQ.setCell (X,3) (.slice BD o9.length BJ))=G:=⟨_,rfl⟩
         rw[em]at Yn qO ck sQ ⊢;clear em;have CU:=J Yn;have CS:=J sQ;have aN:=HP.out.below CS.out;obtain⟨ZL,bm,hv⟩:=aN.slice (i:=14) (by decide);have ea:=aN.i 14 (by decide);have P:=aN.live.own 14 (by decide);rw[hv]at P;have Au:zV.cell? (M,q+2)=some (ZL (rv 14).n bm):=by rw[<-hv];exact((aj CS.out).1 _ _ ac).trans bo.out
         have yD:=CU.out.cell 0;have Am:=CU.out.cell 1;have En:=CU.out.cell 2;have EU:=CU.out.cell 3;have Lj:=CU.out.cell 4;have Ll:=CU.out.cell 5;simp only[List.getElem?_toArray,oX,oj]at yD Am En EU Lj Ll;have zp:M<zV.heap.size:=mz ac CS.out.size;obtain⟨A5,c5,cl,eb,aW,ay,bF⟩:=jh zu 63 zV Bd _ bm ZL _ #[A9 I.length x,.slice (b2,o2) 1 aD,QD U.length aE,.slice BD o9.length BJ,Ac (dL gl m.gd er.2 [L] C.2 (af z)).gw.length cc,.int .i64 (dL gl m.gd er.2 [L] C.2 (af z)).x] rfl P (by simp[Value.oneCell']) (by omega) aN.size;rw[<-hv]at ay bF;have cZ:∃Q,Bk cl M 65 Q/\Q[q+2]?=some (rv 14).v:=by obtain⟨Q,bf⟩:=yj.out;have h1:Bk cl M 65 Q:=Bk.grown (bf.keep (CS.out.block M ac)) ay (aN.live.own 14 (by decide)) (by decide);exact⟨Q,h1,by rw[<-bf.cell];exact bo.out⟩
         obtain⟨Np,cZ,vP⟩:=cZ;have x9:cl.cell? (M,q+2)=some (rv 14).v:=(cZ.cell _).trans vP;have y9:=cZ.frozen (q+2);have L0:(er.2.map setOf).length=I.length:=by rw[lE];exact xB.out.1
         have L1:([L].map setOf).length=1:=by rw[lE];exact xB.out.2.1
         have L2:(C.2.map setOf).length=U.length:=by rw[lE];exact xB.out.2.2
         have q9:=wO yC.out (by exact qI.out) (by exact pW.out) (by decide) (by decide) (gj (gj mf.out yA.out) pX);have T:=wO yC.out (by exact qI.out) (by exact pW.out) (by decide) (by decide) (gj (gj b9.out yA.out) pX);have ao:=wO yC.out (by exact qI.out) (by exact pW.out) (by decide) (by decide) (gj (gj dv.out yA.out) pX);have f9:=xP yC.out (by exact qI.out) (by exact pW.out) (by decide) (by decide) ((dx.out.ib (az yA.out none) (λg e=>by cases e)).ib (az pX none) (λg e=>by cases e));have ap:=xP yC.out (by exact qI.out) (by exact pW.out) (by decide) (by decide) ((MZ.out.ib (az yA.out none) (λg e=>by cases e)).ib (az pX none) (λg e=>by cases e));have bn:=xP yC.out (by exact qI.out) (by exact pW.out) (by decide) (by decide) ((dy.out.ib (az yA.out none) (λg e=>by cases e)).ib (az pX none) (λg e=>by cases e));rw[<-L0]at q9;rw[<-L1]at T;rw[<-L2]at ao;have en:=q9.kept qO (dC q9 eX.out (by decide));have eo:=T.kept qO (dC T eX.out (by decide));have ep:=ao.kept qO (dC ao eX.out (by decide));have eq:=f9.ib qO (λg e=>by cases e;exact⟨_,_,eX.out,by decide⟩);have es:=ap.ib qO (λg e=>by cases e;exact⟨_,_,eX.out,by decide⟩);have bN:=bn.ib qO (λg e=>by cases e;exact⟨_,_,eX.out,by decide⟩);have et:=ce.out.kept qO (dC ce.out eX.out (by decide));have cf:V.drew.heap.size=V.heap.size:=rfl;have fw:rG.drew.heap.size=rG.heap.size:=rfl;have fx:=uy.out.size;obtain⟨s8,s9,a4,-,Zr,bz,bA,jc,ZK⟩:=rO.out;have hrel:=Uu HP.out en eq eo es ep bN ck et fv.out fn.out fo.out (by omega) (by omega) (by omega) (by omega) (by omega) (by omega) (by omega) (by omega);rw[L0,L1,L2]at hrel;have bZ:=J (ie.By aN Hs.out H0.out (y:= {dL gl m.gd er.2 [L] C.2 (af z)with out:=o9}) (K':=K+n) ay aW bF (Fl.one (R:=lj) hrel rfl) (by omega));rw[<-Hq.out]at bZ;have HQ:=J (KQ.below (cm:=cm) CS.out);have vU:=J (CS.out.mono hB);clear s8 s9 a4 Zr bz bA jc ZK P aW bF cZ vP q9 T ao f9 ap bn en eo ep eq es bN et ck Yn sQ qO hrel L0 L1 L2 cf fw fx ay aN;go_wp2_with fail
         go_region
         all_goals
          go_wp2;go_ret
          obtain⟨fd,g1,g2,g3⟩:=bZ.out;exact iS.O QO.out (vU.out.trans g3) (HQ.out.trans g2) g1
      have HR:Hid (gK gl s l=.error N):=by show _=_;rw[QM.out,if_pos bl]
      have e2:(N !=0)=true:=by simpa using bl
      clear d9 bl;go_wp2_with fail
      go_ret
      exact iS.bad HR.out (uy.out.mono hB)
