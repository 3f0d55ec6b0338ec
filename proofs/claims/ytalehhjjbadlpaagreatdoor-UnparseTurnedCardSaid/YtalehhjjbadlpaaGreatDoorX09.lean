/- Lemmas. -/
import Derived.Test.YtalehhjjbadlpaaGreatDoorX08
set_option linter.all false
set_option maxRecDepth 100000
set_option maxHeartbeats 32000000
namespace Go.Proofs.YtalehhjjbadlpaaGreatDoor
open Go.RowKit
variable(a:World){W:World}{g:Nat}
theorem In.of {n:Nat}{x:Int}(a:¬x<0)(b:¬(n:Int)<=x):In n x:=⟨by omega,by omega⟩
theorem Fy {l:List Int}{k:Nat}{x y:Int}(h:(l.take k).Pairwise (· < ·))(e:l[k]?=some y)(j:l[k - 1]?=some x)(n:0<k)(c:x<y):(l.take (k+1)).Pairwise (· < ·):=by
 have m:=(ll.1 e).1;have f:l.take k=l.take (k - 1)++[x]:=by have:=pm (l:=l) (i:=k - 1);rw[j,show k - 1+1=k by omega]at this;exact this
 rw[pm,e,List.pairwise_append];refine⟨h,by simp,λa d b g=> ?_⟩;simp only[Option.toList_some,js]at g;subst g;rw[f,jp,js]at d;rw[f,List.pairwise_append]at h;rcases d with d|rfl
 .exact Int.lt_trans (h.2.2 a d x (by simp)) c
 exact c
theorem Ga (f:iu)(A1 A2 A3 A4 A5 F G I:Option Addr)(c1 c2 c3 c4 c5 aa K L:Nat)(A:Option Addr)(c:Nat)(l:List Int)(h:Sl gS 1 a (Lw a) A l)(R:ip l.length)(s:ip f.ga.length):Calls Tryz.prog 147 #[.agg #[f.gt,A1 f.ga.length c1,A2 f.f6.length c2,A3 f.ge.length c3,A4 f.a'.length c4,A5 f.gM.length c5,F f.d'.length aa,G f.fY.length K,I f.gP.length L],A l.length c] a (mK a (pf f.ga.length l)):=by
 obtain⟨P,M⟩:∃P:Prop,Hid (P=(pf f.ga.length l)):=⟨_,rfl⟩
 rw[<-M.out];unfold ip at R s;have H:=J h;clear h;obtain⟨t,p,d,N⟩:=aO a 32 #[f.gt,A1 f.ga.length c1,A2 f.f6.length c2,A3 f.ge.length c3,A4 f.a'.length c4,A5 f.gM.length c5,F f.d'.length aa,G f.fY.length K,I f.gP.length L];have S:Hid (Below a a t):=J d;have T:=J N;go_enter Tryz.func147,Tryz.ntmps147
 have u:=d.size;clear d N;go_wp2_with fail
 try rw[p]
 clear p;go_loopw [5] (λi wr=>∃k:Nat,k<=l.length/\i=.int .i64 k/\Hid ((l.take k).Pairwise (· < ·)/\Up l k (In f.ga.length))/\Below t t wr) (λi _=>l.length - (intOf i).toNat)
 case atStart=>exact⟨0,by omega,rfl,J ⟨by simp,Up.zero _ _⟩,gD _ _⟩
 case round=>
  obtain⟨k,hk,rfl,w,g⟩:=hrel;have v:=J g;have x1:=T.at v 1 rfl;have m:Hid (Below a a wr):=J (S.trans (g.mono u));clear g;by_cases z:k<l.length
  .obtain⟨b,o,e,rfl,U,n,V,W⟩:=(H.lw gS.ok m).int z;clear U W;by_cases q:e<0
   .go_wp2_with fail
    go_quiet (fail)
    go_wp2_with fail
    go_ret
    exact mK.bad (below_drewN m _)
   have B:decide (e<0)=false:=decide_eq_false q;by_cases r:(f.ga.length:Int)<=e
   .go_wp2_with fail
    go_quiet (fail)
    go_wp2_with fail
    go_ret
    exact mK.bad (below_drewN m _)
   have X:decide ((f.ga.length:Int)<=e)=false:=decide_eq_false r;by_cases C:k=0
   .subst C;have D:Hid ((l.take (0+1)).Pairwise (· < ·)/\Up l (0+1) (In f.ga.length)):=J ⟨by rw[pm,n.out];simp,w.2.snoc n (In.of q r)⟩;have Y:((0:Nat):Int)=0:=rfl;simp only[Nat.add_zero]at V;rw[Y];go_wp2_with fail
    go_quiet (fail)
    go_wp2_with fail
    go_roundw
    case rel=>exact⟨0+1,by omega,by simp,D,below_drewN v _⟩
    case measure=>simp[intOf];omega
   obtain⟨j,rfl⟩:∃j,k=j+1:=⟨k - 1,by omega⟩
   obtain⟨Z,o',y,O,E,hy,q1,r1⟩:=(H.lw gS.ok m).int (k:=j) (by omega);obtain⟨rfl,rfl⟩:b=Z/\o=o':=by simpa using O
   clear E r1 O;by_cases Q:e<=y
   .go_wp2_with fail
    go_quiet (fail)
    go_wp2_with fail
    go_ret
    exact mK.bad (below_drewN m _)
   have nJ:decide (e<=y)=false:=decide_eq_false Q;have D:=J (show(l.take (j+1+1)).Pairwise (· < ·)/\Up l (j+1+1) (In f.ga.length)from⟨Fy w.1 n (by exact hy) (by omega) (by omega),w.2.snoc n (In.of q r)⟩);go_wp2_with fail
   go_quiet (fail)
   go_wp2_with fail
   go_roundw
   case rel=>exact⟨j+1+1,by omega,by simp,D,below_drewN v _⟩
   case measure=>simp[intOf];omega
  obtain rfl:k=l.length:=by omega
  by_cases h0:l.length=0
  .go_wp2_with fail
   go_ret
   exact mK.bad m
  have s:P:=M.mpr ⟨by have:=w.1;rwa [lf]at this,λx n=>w.2.all x n⟩;go_wp2_with fail
  go_ret
  exact mK.O s _ m
section
open Go.Sort
theorem Mr (c:List B):c.length<=(gy c).length:=by
 induction c with
 |nil=>simp
 |cons a l b=>
  have e:gy (a::l)=32::a++gy l:=by simp[gy]
  rw[e];simp;omega
theorem mO (f:B)(a:List B):a.length+1<=(aJ f a).length:=by have:=Mr a;simp only[aJ,la,aV,ln];omega
theorem Ix (a:List hU)(l:List Int):1<=(lz a l).length:=by
 by_cases h:l.length=1
 .match l,h with
  |[n],_=>simp[lz]
 rw[PH a l h];simp
theorem JY (d:List hU)(l:List (List Int)):l.length<=(di d l).length:=by
 induction l with
 |nil=>simp
 |cons a l b=>
  have c:=Ix d a;have e:di d (a::l)=lz d a++di d l:=by simp[di]
  rw[e,la,aV];omega
theorem Xf (W g:Nat)(n:Nat->Value)(c:B)(V:List hU)(U:Int)(X i j l p:Option Addr)(Y Z d2 d3 d4:Nat)(r:k')(f:iN a)(o:PN a g V)(d:V.length<=1000000000000)(z:Pr a W g n c)(q:W<=a)(A:Sl gT 1 a (FT a) X r.gE)(C:Sl gT 1 a (FT a) i r.ij)(D:Sl gT 1 a (FT a) j r.ahead)(E:Sl gS 1 a (FT a) l r.out)(F:Sl mo 2 a (FT a) p r.gw)(G:gN r.x)(m:c.length+(qF V U r).length<=10000000000):
  Calls Tryz.prog 68 #[.pointer (g,0),U,.agg #[X r.gE.length Y,i r.ij.length Z,j r.ahead.length d2,l r.out.length d3,p r.gw.length d4,r.x]] a
   λe w=>e=.returned (.tuple #[])/\Pr w W g n (c++qF V U r)/\KP a w/\Below W a w:=by
 have O:=mO ku (DR V U r);have H:c.length+(aJ ku (DR V U r)).length<=10000000000:=m;have e:∀so,j' V U r=so->DR V U r=di V r.gE++[[47]]++di V r.ij++[[47]]++di V r.ahead++[[62]]++so:=by intro so h;simp[DR,h]
 have s:∀so,j' V U r=so->(di V r.gE).length+(di V r.ij).length+(di V r.ahead).length+so.length+3<=10000000000:=by intro so h;have:=congrArg List.length (e so h);simp only[la,aV,ln]at this;omega
 have t:∀so,j' V U r=so->c.length+(aJ ku (di V r.gE++[[47]]++di V r.ij++[[47]]++di V r.ahead++[[62]]++so)).length<=1000000000000/\(di V r.gE++[[47]]++di V r.ij++[[47]]++di V r.ahead++[[62]]++so).length<=1000000000000:=by intro so h;rw[<-e so h];exact⟨by omega,by omega⟩
 have P:=JY V r.gE;have Q:=JY V r.ij;have R:=JY V r.ahead;have I:=s _ rfl;have T:Hid (∀w,Below a a w->Calls Tryz.prog 114 #[.pointer (g,0),X r.gE.length Y] w (yt w (di V r.gE))):=λw b=>JZ w g V X Y r.gE (f.all b) (o.below b) d ((KP.below b).sl gT.ok A) (by omega) (by omega)
 have K:Hid (∀w,Below a a w->Calls Tryz.prog 114 #[.pointer (g,0),i r.ij.length Z] w (yt w (di V r.ij))):=λw b=>JZ w g V i Z r.ij (f.all b) (o.below b) d ((KP.below b).sl gT.ok C) (by omega) (by omega)
 have L:Hid (∀w,Below a a w->Calls Tryz.prog 114 #[.pointer (g,0),j r.ahead.length d2] w (yt w (di V r.ahead))):=λw b=>JZ w g V j d2 r.ahead (f.all b) (o.below b) d ((KP.below b).sl gT.ok D) (by omega) (by omega)
 have M:r.out.length<=10000000000->Hid (∀w,Below a a w->Calls Tryz.prog 115 #[.pointer (g,0),l r.out.length d3] w (yt w (r.out.map (dK V)))):=λS w b=>TF w g V l d3 r.out (f.all b) (o.below b) d ((KP.below b).sl gS.ok E) (by omega)
 show Calls _ _ _ _ λe w=>e=.returned (.tuple #[])/\Pr w W g n (c++aJ ku (DR V U r))/\KP a w/\Below W a w
 refine JV a W g n c X i j l p Y Z d2 d3 d4 r.gE r.ij r.ahead r.out r.gw r.x _ _ _ (j' V U r) z q T K L (s _ rfl) U ?_ _ (e _ rfl) (t _ rfl);by_cases k:U=1\/U=2\/U=3\/U=5
 .have u:j' V U r=r.out.map (dK V):=by rcases k with rfl|rfl|rfl|rfl<;>simp[j']
  rw[u];exact .inl ⟨k,M (by have:=s _ u;rw[lE]at this;omega)⟩
 by_cases v:U=4
 .subst v;exact .inr (.inr (.inr ⟨rfl,f,F,by simp[j'],J (by simp[j'])⟩))
 by_cases y:U=6
 .subst y;exact .inr (.inl ⟨rfl,ag r.x,by simp[j'],λw b=>bi w r.x (f.all b) G⟩)
 have N:¬U=1/\¬U=2/\¬U=3/\¬U=5:=⟨λh=>k (.inl h),λh=>k (.inr (.inl h)),λh=>k (.inr (.inr (.inl h))),λh=>k (.inr (.inr (.inr h)))⟩
 exact .inr (.inr (.inl (by simp[j',N,v,y])))
theorem nC (c m:Nat)(n:a.heap.size=c)(w g:Nat)(f:Nat->Value)(b first:B)(us:List B)(o:us.length=m)(h:Pr a w g f b)(l:b.length+(aJ first us).length<=10000000000):
  Calls Tryz.prog 19 #[.pointer (g,0),.string first,.slice (c,0) m m] (a.alloc (.cells (strs us).toArray 9)) λe d=>e=.returned (.tuple #[])/\Pr d w g f (b++aJ first us)/\KP a d/\Below w a d:=by
 subst n;subst o;have v:=mO first us
 have p:=h.lt;have i:Below a a (a.alloc (.cells (strs us).toArray 9)):=(gD _ _).alloc (ae _) _;have q:Sl rt 1 (a.alloc (.cells (strs us).toArray 9)) (FT (a.alloc (.cells (strs us).toArray 9))) (a,0) us:=by refine⟨strs us,Xq _ _ _,λ_=>⟨a.heap.size,0,rfl,Hy (Bk.new a 9 (strs us).toArray) (by decide) (by decide),λj u r=> ?_⟩⟩;rw[Bk.cell (Bk.new a 9 (strs us).toArray)];simpa using r
 refine(Ie _ w g f b first _ us.length us (h.below i) q (by omega) (by omega)).mono ?_;rintro e d ⟨he,s,t,k⟩;exact⟨he,s,(KP.below i).trans t,(i.mono (by omega)).trans k⟩
theorem Qh {α:Type}(f:α->B)(l:List α)(k:Nat):((l.take k).flatMap f).length<=(l.flatMap f).length:=by
 conv=>rhs;rw[<-rA k l]
 simp only[rj,la];omega
theorem bU {α:Type}(f:α->B)(l:List α)(k:Nat)(x:α)(h:l[k]?=some x):((l.take k).flatMap f).length+(f x).length<=(l.flatMap f).length:=by have:=Qh f l (k+1);rw[cO f l k x h,la]at this;exact this
theorem PN.kp {w':World}{s:Nat}{b:Nat->Value}{t:List hU}{d a:B}(h:PN W s t)(f:Pr W g s b d)(e:Pr w' g s b a)(i:KP W w'):PN w' s t:=by obtain⟨A,c,j,k⟩:=h;obtain⟨p,v,-,q,-⟩:=f;obtain⟨l,r,-,m,-⟩:=e;have n:W.cell? (s,1)=some (b 1):=Bk.cell q 1;have o:w'.cell? (s,1)=some (b 1):=Bk.cell m 1;exact⟨A,c,by rw[o,<-n,j],i.sl iA.ok k⟩
theorem CK (Bd g:Nat)(E:Nat->Value)(m:B)(gs:List hU)(A:Option Addr)(c:Nat)(l:gH)(hT:iN a)(hG:nG<=Bd)(hP:PN a g gs)(Q:gs.length<=1000000000000)(hp:Pr a Bd g E m)(R:Bd<=a)(hA:Sl lj 6 a (FT a) A l.gC)(aa:l.gC.length<=10000000000)(r:m.length+(eu gs l).length<=10000000000):
  Calls Tryz.prog 26 #[.pointer (g,0),.agg #[l.gd,.bool l.nj,A l.gC.length c]] a
   λe S=>e=.returned (.tuple #[])/\Pr S Bd g E (m++eu gs l)/\KP a S/\Below Bd a S:=by
 obtain⟨d,T,w⟩:=l;dsimp only at hA aa ⊢;obtain⟨F,v⟩:∃F,aJ iW (pick aH d::if T then [fO]else [])=F:=⟨_,rfl⟩
 have ab:m.length+F.length+(w.flatMap (qF gs d)).length<=10000000000:=by unfold eu at r;dsimp only at r;rw[v,la]at r;omega
 have HE:Hid (eu gs ⟨d,T,w⟩=F++w.flatMap (qF gs d)):=by rw[<-v];rfl
 clear r;have U:=J v;clear v;have y:Below a a (a.alloc (.cells #[d,.bool T,A w.length c] 65)):=(gD _ _).alloc (ae _) _;have V:=hT.all y;have z:=hp.below y;have C:=J (Bk.new a 65 #[d,.bool T,A w.length c]);have p:=J y;have D:=hp.lt;clear y;go_enter Tryz.func26,Tryz.ntmps26
 cases T with
 |true=>
  have s:Hid (aJ iW [pick aH d,fO]=F):=J (by have:=U.out;simpa using this);have G:m.length+(aJ iW [pick aH d,fO]).length<=10000000000:=by rw[s.out];omega
  go_wp2_with (first
   |(go_at_call 67;refine(EG _ d V).mono ?_;rintro e S ⟨rfl,rfl⟩)
   |(go_at_call 19;refine(nC _ (a.heap.size+1) 2 (World.size_alloc _ _) Bd g E m iW [pick aH d,fO] rfl z G).mono ?_;rintro e w1 ⟨rfl,H,t,I⟩;have q2:w1.cell? (a,2)=some (A w.length c):=Bk.cell (t.bk C.out (by decide) (by decide)) 2))
  go_loopw [23] (λi wr=>∃k:Nat,k<=w.length/\i=.int .i64 k/\Pr wr Bd g E (m++F++(w.take k).flatMap (qF gs d))/\KP (a.alloc (.cells #[d,.bool true,A w.length c] 65)) wr/\Below Bd a wr) (λi _=>w.length - (intOf i).toNat)
  case atStart=>exact⟨0,nz _,rfl,by rw[<-s.out];simpa using H,t,(p.out.mono R).trans I⟩
  case round=>
   obtain⟨k,hk,rfl,n,j,q⟩:=hrel;have q0:wr.cell? (a,0)=some (.int .i64 d):=Bk.cell (j.bk C.out (by decide) (by decide)) 0;have zr:a.heap.size<wr.heap.size:=World.block_lt_of_cell? _ _ q0;clear q2;by_cases ad:k<w.length
   .obtain⟨b,o,x,W,X,Y,Z,E2,e2,E3,e3,E4,e4,rfl,-,K,p0,p1,p2,p3,p4,p5,r5,j0,j1,j2,j3,j4⟩:=(j.sl lj.ok ((KP.below p.out).sl lj.ok hA)).X ad;have L:=J (cO (qF gs d) w k x K.out);have M:=bU (qF gs d) w k x K.out;have f:Below wr.heap.size wr (wr.alloc (.cells #[W x.gE.length X,Y x.ij.length Z,E2 x.ahead.length e2,E3 x.out.length e3,E4 x.gw.length e4,x.x] 69)):=(gD _ _).alloc (ae _) _;have h:=KP.below f;have u:PN wr g gs:=(hP.below p.out).kp z n j;have hR:=J (Xf _ Bd g E _ gs d W Y E2 E3 E4 X Z e2 e3 e4 x ((hT.below q hG).all f) (u.below f) Q (n.below f) (nt D.1 (nt (pl (mz D.2 (pl zr))) f.size)) (h.sl gT.ok j0) (h.sl gT.ok j1) (h.sl gT.ok j2) (h.sl gS.ok j3) (h.sl mo.ok j4) r5 (by simp only[la];omega));have KO:=J h;have KN:=J f;clear K r5 j0 j1 j2 j3 j4 M h f u;go_wp2_with (go_at_call 68;refine hR.out.mono ?_;rintro e w3 ⟨rfl,N,O,P⟩)
    go_roundw
    case rel=>exact⟨k+1,by omega,by simp,by rw[L.out,<-mL];exact N,j.trans (KO.out.trans O),q.trans ((KN.out.mono (by omega)).trans P)⟩
    case measure=>simp[intOf];omega
   obtain rfl:k=w.length:=by omega
   rw[lf]at n;go_wp2
   go_end0
   refine⟨rfl,?_,(KP.below p.out).trans j,q⟩;rw[HE.out,<-mL];exact n
 |false=>
  have s:Hid (aJ iW [pick aH d]=F):=J (by have:=U.out;simpa using this);have G:m.length+(aJ iW [pick aH d]).length<=10000000000:=by rw[s.out];omega
  go_wp2_with (first
   |(go_at_call 67;refine(EG _ d V).mono ?_;rintro e S ⟨rfl,rfl⟩)
   |(go_at_call 19;refine(nC _ (a.heap.size+1) 1 (World.size_alloc _ _) Bd g E m iW [pick aH d] rfl z G).mono ?_;rintro e w1 ⟨rfl,H,t,I⟩;have q2:w1.cell? (a,2)=some (A w.length c):=Bk.cell (t.bk C.out (by decide) (by decide)) 2))
  go_loopw [23] (λi wr=>∃k:Nat,k<=w.length/\i=.int .i64 k/\Pr wr Bd g E (m++F++(w.take k).flatMap (qF gs d))/\KP (a.alloc (.cells #[d,.bool false,A w.length c] 65)) wr/\Below Bd a wr) (λi _=>w.length - (intOf i).toNat)
  case atStart=>exact⟨0,nz _,rfl,by rw[<-s.out];simpa using H,t,(p.out.mono R).trans I⟩
  case round=>
   obtain⟨k,hk,rfl,n,j,q⟩:=hrel;have q0:wr.cell? (a,0)=some (.int .i64 d):=Bk.cell (j.bk C.out (by decide) (by decide)) 0;have zr:a.heap.size<wr.heap.size:=World.block_lt_of_cell? _ _ q0;clear q2;by_cases ad:k<w.length
   .obtain⟨b,o,x,W,X,Y,Z,E2,e2,E3,e3,E4,e4,rfl,-,K,p0,p1,p2,p3,p4,p5,r5,j0,j1,j2,j3,j4⟩:=(j.sl lj.ok ((KP.below p.out).sl lj.ok hA)).X ad;have L:=J (cO (qF gs d) w k x K.out);have M:=bU (qF gs d) w k x K.out;have f:Below wr.heap.size wr (wr.alloc (.cells #[W x.gE.length X,Y x.ij.length Z,E2 x.ahead.length e2,E3 x.out.length e3,E4 x.gw.length e4,x.x] 69)):=(gD _ _).alloc (ae _) _;have h:=KP.below f;have u:PN wr g gs:=(hP.below p.out).kp z n j;have hR:=J (Xf _ Bd g E _ gs d W Y E2 E3 E4 X Z e2 e3 e4 x ((hT.below q hG).all f) (u.below f) Q (n.below f) (nt D.1 (nt (pl (mz D.2 (pl zr))) f.size)) (h.sl gT.ok j0) (h.sl gT.ok j1) (h.sl gT.ok j2) (h.sl gS.ok j3) (h.sl mo.ok j4) r5 (by simp only[la];omega));have KO:=J h;have KN:=J f;clear K r5 j0 j1 j2 j3 j4 M h f u;go_wp2_with (go_at_call 68;refine hR.out.mono ?_;rintro e w3 ⟨rfl,N,O,P⟩)
    go_roundw
    case rel=>exact⟨k+1,by omega,by simp,by rw[L.out,<-mL];exact N,j.trans (KO.out.trans O),q.trans ((KN.out.mono (by omega)).trans P)⟩
    case measure=>simp[intOf];omega
   obtain rfl:k=w.length:=by omega
   rw[lf]at n;go_wp2
   go_end0
   refine⟨rfl,?_,(KP.below p.out).trans j,q⟩;rw[HE.out,<-mL];exact n
end
theorem FE (f:iu)(A1 A2 A3 A4 A5 A B C:Option Addr)(c1 c2 c3 c4 c5 D E F:Nat)(g:hU)(R S u T U V:Option Addr)(d3 d4 G W X Y:Nat)(h:Sl lS 3 a (Lw a) u g.gi)(hl:ip g.gi.length)(hn:ip f.ga.length):Calls Tryz.prog 122 #[.agg #[f.gt,A1 f.ga.length c1,A2 f.f6.length c2,A3 f.ge.length c3,A4 f.a'.length c4,A5 f.gM.length c5,A f.d'.length D,B f.fY.length E,C f.gP.length F],.agg #[.string g.gn,g.gL,.bool g.i6,R g.gk.length d3,S g.gO.length d4,u g.gi.length G,T g.gh.length W,U g.gx.length X,V g.gR.length Y]] a (iz a (g.gi.length<=8/\∀p∈g.gi,In f.ga.length p.z/\N9 p.x/\N9 p.y)):=by
 obtain⟨P,Z⟩:∃P:Prop,Hid (P=(g.gi.length<=8/\∀p∈g.gi,In f.ga.length p.z/\N9 p.x/\N9 p.y)):=⟨_,rfl⟩
 rw[<-Z.out];unfold ip at*
 have H:=J h;clear h;obtain⟨I,m,n,O⟩:=aO a 32 #[f.gt,A1 f.ga.length c1,A2 f.f6.length c2,A3 f.ge.length c3,A4 f.a'.length c4,A5 f.gM.length c5,A f.d'.length D,B f.fY.length E,C f.gP.length F];have bH:Hid (Below a a I):=J n;have kK:=J O;obtain⟨j,qE,l,q⟩:=aO I 52 #[.string g.gn,g.gL,.bool g.i6,R g.gk.length d3,S g.gO.length d4,u g.gi.length G,T g.gh.length W,U g.gx.length X,V g.gR.length Y];have v:Hid (Below a a j):=J (bH.trans (l.mono bH.size));have K:=J q;have aQ:Hid (Bk j a.heap.size 32 #[f.gt,A1 f.ga.length c1,A2 f.f6.length c2,A3 f.ge.length c3,A4 f.a'.length c4,A5 f.gM.length c5,A f.d'.length D,B f.fY.length E,C f.gP.length F]):=J (Bk.l O l);go_enter Tryz.func122,Tryz.ntmps122
 have r:=v.size;clear n O l q kK;have n5:j.cell? (I,5)=some (u g.gi.length G):=K.cell 5;by_cases hm:8<g.gi.length
 .have bm:decide ((8:Int)<g.gi.length)=true:=decide_eq_true (by omega);go_wp2_with fail
  go_ret
  exact iz.bad _ (by decide) v
 have bm:decide ((8:Int)<g.gi.length)=false:=decide_eq_false (by omega);go_wp2_with fail
 try rw[m]
 try rw[qE]
 clear n5 qE m;go_loopw [5] (λi wr=>∃k:Nat,k<=g.gi.length/\i=.int .i64 k/\Hid (Up g.gi k (λp=>In f.ga.length p.z/\N9 p.x/\N9 p.y))/\Below j j wr) (λi _=>g.gi.length - (intOf i).toNat)
 case atStart=>exact⟨0,by omega,rfl,J (Up.zero _ _),gD _ _⟩
 case round=>
  obtain⟨k,hk,rfl,s,w⟩:=hrel;have qy:=J w;have x5:=K.at qy 5 rfl;have mG:Hid (Below a a wr):=J (v.trans (w.mono r));by_cases L:k<g.gi.length
  .obtain⟨b,o,x,rfl,hb,M,q0,q1,q2,r0,r1,r2⟩:=(H.lw lS.ok mG).part L;obtain⟨W1,aa,t,c⟩:=aO wr 54 #[.int .i64 x.z,.int .i64 x.x,.int .i64 x.y];have d:Hid (Below j j W1):=J (w.trans (t.mono w.size));have z:Hid (Below a a W1):=J (v.trans (d.mono r));have y1:=aQ.at d 1 rfl;have p0:=c.cell 0;have p1:=c.cell 1;have p2:=c.cell 2;clear hb r0 r1 r2 t c w;by_cases N:x.z<0
   .go_wp2_with fail
    go_ret
    exact iz.bad _ (by decide) z
   by_cases Q:(f.ga.length:Int)<=x.z
   .go_wp2_with fail
    go_ret
    exact iz.bad _ (by decide) z
   by_cases h3:gZ x.x=false
   .go_wp2_with (first|(go_at_call 84;refine(dQ _ _).mono ?_;rintro e w' ⟨rfl,rfl⟩))
    go_ret
    exact iz.bad _ (by decide) z
   have nJ:gZ x.x=true:=by simpa using h3
   by_cases h4:gZ x.y=false
   .go_wp2_with (first|(go_at_call 84;refine(dQ _ _).mono ?_;rintro e w' ⟨rfl,rfl⟩))
    go_ret
    exact iz.bad _ (by decide) z
   have zi:gZ x.y=true:=by simpa using h4
   have dN:=J (s.snoc M ⟨In.of N Q,pK nJ,pK zi⟩);go_wp2_with (first|(go_at_call 84;refine(dQ _ _).mono ?_;rintro e w' ⟨rfl,rfl⟩))
   go_roundw
   case rel=>exact⟨k+1,by omega,by simp,dN,d⟩
   case measure=>simp[intOf];omega
  obtain rfl:k=g.gi.length:=by omega
  have hg:P:=Z.mpr ⟨by omega,λx M=>s.all x M⟩;clear w;go_wp2_with fail
  go_ret
  exact iz.O hg mG
section
open Go.Shelf
attribute [local go_sem] Oper.semAt_some
theorem RL:(Tryz.prog.info? 196).map (λi=>(i.zero,i.size,i.bytes))=some (some (.agg #[.int .i64 0,.int .i64 0,.bool false]),3,24):=by kernel_rfl
theorem uL:(Tryz.prog.info? 3).map (λi=>(i.zero,i.size,i.bytes))=some (some (.int .i64 0),1,8):=by kernel_rfl
theorem GA (w:Option Addr)(n c:Nat):(binOp .eql 44 (w n c) (.slice none 0 0)).run Tryz.prog a=.ok (.bool w.isNone) a:=Lib.run_eql_slice_nil a _ _ w n c 0 0 Tryz.underlying44
theorem GB (w:Option Addr)(n c:Nat):(binOp .eql 22 (w n c) (.slice none 0 0)).run Tryz.prog a=.ok (.bool w.isNone) a:=Lib.run_eql_slice_nil a _ _ w n c 0 0 Tryz.underlying22
theorem za (B:Nat)(A:Option Addr)(n c:Nat)(cs:List Value)(d:∀u∈cs,u.oneCell'=true)(f:Rd a B A n 3 cs)(x:B<=a)(D:n*24<=140737488355328):
  Calls Tryz.prog 110 #[A n c] a λe q=>∃v,e=.returned v/\q.ownsRow a.heap.size 196 3 v n cs/\Below a a q:=by
 obtain⟨y,g,i,j,k⟩:=info_parts RL;have r:=GA;rcases A with _|ad
 .have l:n=0:=by
   rcases Nat.eq_zero_or_pos n with h|h
   .exact h
   obtain⟨b,o,e,_⟩:=f.2 h;cases e
  have s:cs=[]:=List.eq_nil_of_length_eq_zero (by rw[f.1,l]);have H:=J l;have z:=J s;clear l s;go_enter Tryz.func110,Tryz.ntmps110
  go_wp2;go_ret
  refine⟨.slice none 0 0,rfl,?_,gD _ _⟩;rw[H.out,z.out];exact World.ownsRow_nil _ _ _ _
 go_enter Tryz.func110,Tryz.ntmps110
 go_wp2_with (at_builtin;refine iq _ rfl (.tmp 5) (.tmp 6) 44 rfl a.heap.size 196 y _ 3 24 Tryz.underlying44 g i j k rfl (by decide) (.slice (a,0) 0 0) 0 [] rfl (World.ownsRow_made a #[] 0 (ae _) (by simp[maxLen]) rfl) B (some ad) n c cs rfl (f.alloc x _) (d) (by simp only[maxLen];omega) (by omega) (by simp) ?_;intro C E w p t)
 go_ret
 refine⟨C,rfl,by simpa using w,((gD _ _).alloc (ae _) _).grown p (by simp) (by simp[Value.ownBlock])⟩
theorem Q3 (B:Nat)(A:Option Addr)(n c:Nat)(d:List Int)(f:Rd a B A n 1 (aC d))(x:B<=a)(D:n*8<=140737488355328):
  Calls Tryz.prog 111 #[A n c] a λe q=>∃v,e=.returned v/\q.ownsRow a.heap.size 3 1 v n (aC d)/\Below a a q:=by
 obtain⟨y,g,i,j,k⟩:=info_parts uL;have r:=GB;rcases A with _|ad
 .have l:n=0:=by
   rcases Nat.eq_zero_or_pos n with h|h
   .exact h
   obtain⟨b,o,e,_⟩:=f.2 h;cases e
  have s:aC d=[]:=List.eq_nil_of_length_eq_zero (by rw[f.1,l]);have H:=J l;have z:=J s;clear l s;go_enter Tryz.func111,Tryz.ntmps111
  go_wp2;go_ret
  refine⟨.slice none 0 0,rfl,?_,gD _ _⟩;rw[H.out,z.out];exact World.ownsRow_nil _ _ _ _
 go_enter Tryz.func111,Tryz.ntmps111
 go_wp2_with (at_builtin;refine iq _ rfl (.tmp 5) (.tmp 6) 22 rfl a.heap.size 3 y _ 1 8 Tryz.underlying22 g i j k rfl (by decide) (.slice (a,0) 0 0) 0 [] rfl (World.ownsRow_made a #[] 0 (ae _) (by simp[maxLen]) rfl) B (some ad) n c (aC d) rfl (f.alloc x _) (Br d) (by simp only[maxLen];omega) (by omega) (by simp) ?_;intro C E w p t)
 go_ret
 refine⟨C,rfl,by simpa using w,((gD _ _).alloc (ae _) _).grown p (by simp) (by simp[Value.ownBlock])⟩
def qV (a:Nat):Nat->Nat->List Int->List (Nat×Nat×Nat)
 |_,_,[]=>[]
 |k,f,e::es=>if(f:Int)<=e/\e<(a:Int)then(k,f,e.toNat)::qV a (k+1) (e.toNat+1) es else []
theorem Uc (A E:Option Addr)(n c m d:Nat)(w:World):Calls Tryz.prog 113 #[A n c,E m d] w λx a=>x=.returned (.func (.func 146) #[] #[.pointer (w.heap.size+1,0),.pointer (w,0)])/\
  a=(w.alloc (.cells #[A n c] 44)).alloc (.cells #[E m d] 22):=by
 go_enter Tryz.func113,Tryz.ntmps113
 go_wp2;go_ret
 exact⟨by simp,rfl⟩
theorem dE (o:Obj){p:Addr}{v:Value}(h:W.cell? p=some v):(W.alloc o).cell? p=some v:=ah ((gD _ _).alloc (ae _) o) h
theorem pL (v:Value)(t:TypeId):Bk (a.alloc (.cells #[v] t)) a.heap.size t #[v]:=heap_alloc_new a _
theorem ur (o:Obj)(v:Value)(t:TypeId):Bk ((a.alloc o).alloc (.cells #[v] t)) (a.heap.size+1) t #[v]:=by
 have h:=pL (a.alloc o) v t
 rwa [World.size_alloc]at h
theorem Bk.below {w w':World}{t:TypeId}{cs:Array Value}(h:Bk w g t cs)(hb:Below w w w'):Bk w' g t cs:=(hb.block g h.lt).trans h
def MX (w:World)(n m:Nat)(cs:List Value)(es:List Int)(e:Ending)(w':World):Prop:=∃v u a b,e=.returned (.func (.func 112) #[] #[.pointer (some ⟨a,0,none⟩),.pointer (some ⟨b,0,none⟩)])/\w'.ownsRow w.heap.size 196 3 v n cs/\w'.ownsRow w.heap.size 3 1 u m (aC es)/\Bk w' a 44 #[v]/\Bk w' b 22 #[u]/\w.heap.size<=a/\w.heap.size<=b/\Below w w w'
theorem iT {k:Nat}{e t:TypeId}{v:Value}{n:Nat}{l:List Value}(h:W.ownsRow k e g v n l){s:Nat}{cs:Array Value}(hb:Bk W s t cs)(a:e≠t)(i:Nat)(u:Value):(W.setCell (s,i) u).ownsRow k e g v n l:=by
 refine h.kept (row:=some s) (aX (p:=(s,i)) (World.grownBy.refl _ _) (.inl rfl) _) (.inr (λb=> ?_));obtain⟨c,d⟩:=iI h s b;have h1:W.heap[s]?=_:=hb;have h2:W.heap[s]?=_:=d;rw[h1]at h2;injection h2 with f
 injection f with _ j
 exact a j.symm
section
variable {w w2:World} {n m b1 b2:Nat} {cs:List Value} {es:List Int} {v u:Value} (hb:Below w.heap.size w w2) (h1:w2.ownsRow b1 196 3 v n cs) (h2:w2.ownsRow b2 3 1 u m (aC es)) (hb1:w.heap.size<=b1) (hb2:w.heap.size<=b2)
include hb h1 h2 hb1 hb2
theorem Q':MX w n m cs es (.returned (.func (.func 112) #[] #[.pointer (w2,0),.pointer (w2.heap.size+1,0)])) ((w2.alloc (.cells #[v] 44)).alloc (.cells #[u] 22)):=⟨v,u,_,_,rfl,ir ((h1.alloc _).alloc _) hb1,ir ((h2.alloc _).alloc _) hb2,(pL _ _ _).alloc _,ur _ _ _ _,hb.size,Nat.le_succ_of_le hb.size,(hb.alloc hb.size _).alloc (by have:=hb.size;simp;omega) _⟩
theorem Ra:MX w n m cs es (.returned (.func (.func 112) #[] #[.pointer (w2.heap.size+1,0),.pointer (w2,0)])) ((w2.alloc (.cells #[u] 22)).alloc (.cells #[v] 44)):=⟨v,u,_,_,rfl,ir ((h1.alloc _).alloc _) hb1,ir ((h2.alloc _).alloc _) hb2,ur _ _ _ _,(pL _ _ _).alloc _,Nat.le_succ_of_le hb.size,hb.size,(hb.alloc hb.size _).alloc (by have:=hb.size;simp;omega) _⟩
theorem zj {g:Nat}{z:Value}(b:Bk w2 g 44 #[z])(a:w.heap.size<=g):MX w n m cs es (.returned (.func (.func 112) #[] #[.pointer (g,0),.pointer (w2,0)])) ((w2.setCell (g,0) v).alloc (.cells #[u] 22)):=by
 have c:(w2.setCell (g,0) v).heap.size=w2.heap.size:=by simp
 have d:=pL (w2.setCell (g,0) v) u 22;rw[c]at d;exact⟨v,u,_,_,rfl,ir ((iT h1 b (by decide) 0 v).alloc _) hb1,ir ((iT h2 b (by decide) 0 v).alloc _) hb2,(b.set 0 v).alloc _,d,a,hb.size,(hb.setCell a _).alloc (by rw[c];exact hb.size) _⟩
theorem zo {g:Nat}{z:Value}(b:Bk w2 g 22 #[z])(a:w.heap.size<=g):MX w n m cs es (.returned (.func (.func 112) #[] #[.pointer (w2,0),.pointer (g,0)])) ((w2.setCell (g,0) u).alloc (.cells #[v] 44)):=by
 have c:(w2.setCell (g,0) u).heap.size=w2.heap.size:=by simp
 have d:=pL (w2.setCell (g,0) u) v 44;rw[c]at d;exact⟨v,u,_,_,rfl,ir ((iT h1 b (by decide) 0 u).alloc _) hb1,ir ((iT h2 b (by decide) 0 u).alloc _) hb2,d,(b.set 0 u).alloc _,hb.size,a,(hb.setCell a _).alloc (by rw[c];exact hb.size) _⟩
theorem Hf {g h:Nat}{z j:Value}(e:Bk w2 g 44 #[z])(f:Bk w2 h 22 #[j])(b:w.heap.size<=g)(c:w.heap.size<=h):MX w n m cs es (.returned (.func (.func 112) #[] #[.pointer (g,0),.pointer (h,0)])) ((w2.setCell (g,0) v).setCell (h,0) u):=by
 have d:g≠h:=by
  rintro rfl;have k:w2.heap[g]?=_:=e;have i:w2.heap[g]?=_:=f;rw[k]at i;injection i with l
  injection l with _ o
  exact absurd o (by decide)
 have a:=f.I (p:=(g,0)) d.symm v;exact⟨v,u,_,_,rfl,ir (iT (iT h1 e (by decide) 0 v) a (by decide) 0 u) hb1,ir (iT (iT h2 e (by decide) 0 v) a (by decide) 0 u) hb2,(e.set 0 v).I (p:=(h,0)) d u,a.set 0 u,b,c,(hb.setCell b _).setCell c _⟩
end
theorem Qg (B:Nat)(A E:Option Addr)(n c m d:Nat)(cs:List Value)(O:∀u∈cs,u.oneCell'=true)(es:List Int)(V:Rd a B A n 3 cs)(hE:Rd a B E m 1 (aC es))(Y:B<=a)(hn:n*24<=140737488355328)(hm:m*8<=140737488355328):
  Calls Tryz.prog 64 #[.agg #[A n c,E m d]] a (MX a n m cs es):=by
 go_enter Tryz.func64,Tryz.ntmps64
 go_wp2_with fail
 obtain⟨W,x⟩:∃W,a.alloc (.cells #[A n c,E m d] 46)=W:=⟨_,rfl⟩
 have P:W.cell? (a,0)=some (A n c):=by rw[<-x];simp[go_sem]
 have Q:W.cell? (a,1)=some (E m d):=by rw[<-x];simp[go_sem]
 have y:Below a a W:=by rw[<-x];exact(gD _ _).alloc (ae _) _
 have hs:a.heap.size<W.heap.size:=by rw[<-x];simp
 rw[x];clear x;have q:=V.below y Y;have r:=hE.below y Y;have s:B<=W.heap.size:=by omega
 have ab:¬(W.heap.size=a.heap.size):=by omega
 have ac:¬(W.heap.size+1=a.heap.size):=by omega
 go_region_held3 (λZ=>Z.cell? (a,0)=some (A n c)/\Z.cell? (a,1)=some (E m d))
  (first|go_keep)
  (first
   |(go_at_call 110;refine(za _ B A n c cs O (by first|exact q.drew|exact(q.alloc (by omega) _).drew|exact((q.alloc (by omega) _).alloc (by simp;omega) _).drew) (by first|omega|(simp;omega)) hn).mono ?_;rintro e b ⟨v,rfl,f,R⟩;have hb1:=lC R;(have S:W.heap.size<=b.heap.size:=nt (by first|exact ae _|(simp;omega)|simp) hb1.size);(have t:Below a a b:=by first|exact y.trans (hb1.mono (by omega))|exact(y.alloc (by omega) _).trans (hb1.mono (by simp;omega))|exact((y.alloc (by omega) _).alloc (by simp;omega) _).trans (hb1.mono (by simp;omega)));(have z:a.heap.size<b.heap.size:=mz hs S);(have al:¬(b.heap.size=a.heap.size):=(by omega));(have ao:¬(b.heap.size+1=a.heap.size):=(by omega));(have ap:¬(a.heap.size=b.heap.size):=(by omega));(have aq:¬(a.heap.size=b.heap.size+1):=(by omega));(first|(have l:=((pL W (.slice none 0 0) _).alloc _).below hb1;have N:=(ur W _ (.slice none 0 0) _).below hb1;have o:=ah hb1 (dE _ (dE _ P));have p:=ah hb1 (dE _ (dE _ Q));have k:=((r.alloc s _).alloc (by simp;omega) _).below hb1 (by simp;omega);have ar:=N.lt)|(have l:=(pL W (.slice none 0 0) _).below hb1;have o:=ah hb1 (dE _ P);have p:=ah hb1 (dE _ Q);have k:=(r.alloc s _).below hb1 (by simp;omega);have T:=l.lt)|(have o:=ah hb1 P;have p:=ah hb1 Q;have k:=r.below hb1 s));obtain⟨A1,c1,rfl,-⟩:=Rd.U f)
   |(go_at_call 111;refine(Q3 _ B E m d es (by first|exact k|exact k.alloc (by omega) _|exact(k.alloc (by omega) _).alloc (by simp;omega) _) (by first|omega|(simp;omega)) hm).mono ?_;rintro e w2 ⟨u,rfl,i,hb2⟩;(have X:b.heap.size<=w2.heap.size:=nt (by first|exact ae _|(simp;omega)|simp) hb2.size);(have j:Below a a w2:=by first|exact t.trans (hb2.mono (by omega))|exact(t.alloc (by omega) _).trans (hb2.mono (by simp;omega))|exact((t.alloc (by omega) _).alloc (by simp;omega) _).trans (hb2.mono (by simp;omega)));(have aa:a.heap.size<w2.heap.size:=mz z X);(have ay:¬(w2.heap.size=a.heap.size):=(by omega));(have aD:¬(w2.heap.size+1=a.heap.size):=(by omega));(have bK:¬(a.heap.size=w2.heap.size):=(by omega));(have aE:¬(a.heap.size=w2.heap.size+1):=(by omega));(first|(have g:=((pL b (.slice none 0 0) _).alloc _).below hb2;have C:=(ur b _ (.slice none 0 0) _).below hb2;have w:=gj ((f.alloc _).alloc _) hb2;have D:=ah hb2 (dE _ (dE _ o));have F:=ah hb2 (dE _ (dE _ p));have H:w2.cell? (b,0)=some (.slice none 0 0):=g.cell 0;have I:w2.frozen? (b,0)=false:=g.frozen 0;have aM:w2.cell? (b.heap.size+1,0)=some (.slice none 0 0):=C.cell 0;have aN:w2.frozen? (b.heap.size+1,0)=false:=C.frozen 0)|(have g:=(pL b (.slice none 0 0) _).below hb2;have w:=gj (f.alloc _) hb2;have D:=ah hb2 (dE _ o);have F:=ah hb2 (dE _ p);have h:=(l.alloc _).below hb2;have H:w2.cell? (b,0)=some (.slice none 0 0):=g.cell 0;have I:w2.frozen? (b,0)=false:=g.frozen 0;have K:w2.cell? ⟨W.heap.size,0,none⟩=some (.slice none 0 0):=h.cell 0;have L:w2.frozen? ⟨W.heap.size,0,none⟩=false:=h.frozen 0)|(have g:=(pL b (.slice none 0 0) _).below hb2;have w:=gj (f.alloc _) hb2;have D:=ah hb2 (dE _ o);have F:=ah hb2 (dE _ p);have G:=g.lt;have H:w2.cell? (b,0)=some (.slice none 0 0):=g.cell 0;have I:w2.frozen? (b,0)=false:=g.frozen 0)|(have w:=gj f hb2;have D:=ah hb2 o;have F:=ah hb2 p;have h:=l.below hb2;have M:=N.below hb2;have K:w2.cell? ⟨W.heap.size,0,none⟩=some (.slice none 0 0):=h.cell 0;have L:w2.frozen? ⟨W.heap.size,0,none⟩=false:=h.frozen 0;have aR:w2.cell? ⟨W.heap.size+1,0,none⟩=some (.slice none 0 0):=M.cell 0;have aW:w2.frozen? ⟨W.heap.size+1,0,none⟩=false:=M.frozen 0)|(have w:=gj f hb2;have D:=ah hb2 o;have F:=ah hb2 p;have h:=l.below hb2;have U:=h.lt;have K:w2.cell? ⟨W.heap.size,0,none⟩=some (.slice none 0 0):=h.cell 0;have L:w2.frozen? ⟨W.heap.size,0,none⟩=false:=h.frozen 0)|(have w:=gj f hb2;have D:=ah hb2 o;have F:=ah hb2 p));obtain⟨E1,d1,rfl,-⟩:=Rd.U i))
 all_goals
  go_wp2_with fail
  go_ret
  first
   |exact Q' j w i (by first|omega|(simp;omega)) (by first|omega|(simp;omega))
   |exact Ra j w i (by first|omega|(simp;omega)) (by first|omega|(simp;omega))
   |exact zj j w i (by first|omega|(simp;omega)) (by first|omega|(simp;omega)) g (by omega)
   |exact zj j w i (by first|omega|(simp;omega)) (by first|omega|(simp;omega)) h (by omega)
   |exact zo j w i (by first|omega|(simp;omega)) (by first|omega|(simp;omega)) g (by omega)
   |exact zo j w i (by first|omega|(simp;omega)) (by first|omega|(simp;omega)) h (by omega)
   |exact Hf j w i (by first|omega|(simp;omega)) (by first|omega|(simp;omega)) g C (by omega) (by omega)
   |exact Hf j w i (by first|omega|(simp;omega)) (by first|omega|(simp;omega)) C g (by omega) (by omega)
   |exact Hf j w i (by first|omega|(simp;omega)) (by first|omega|(simp;omega)) g h (by omega) (by omega)
   |exact Hf j w i (by first|omega|(simp;omega)) (by first|omega|(simp;omega)) h g (by omega) (by omega)
   |exact Hf j w i (by first|omega|(simp;omega)) (by first|omega|(simp;omega)) h M (by omega) (by omega)
   |exact Hf j w i (by first|omega|(simp;omega)) (by first|omega|(simp;omega)) M h (by omega) (by omega)
