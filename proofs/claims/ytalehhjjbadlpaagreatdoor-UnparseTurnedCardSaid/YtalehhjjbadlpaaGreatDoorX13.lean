/- Lemmas. -/
import Derived.Test.YtalehhjjbadlpaaGreatDoorX11
import Derived.Deep.DeepCutAuto
set_option linter.all false
set_option maxRecDepth 100000
set_option maxHeartbeats 32000000
namespace Go.Proofs.YtalehhjjbadlpaaGreatDoor
open Go.RowKit
variable{W a:World}{g q G f:Nat}(u:World){r:Option Addr}{l:List Value}{e t:TypeId}{V:Array Value}{E:Int}{U:List Int}{k:List Pt}{b:Type}{T:B}
section
open Go.Shelf
attribute [local go_sem] Oper.semAt_some
def CI (c:List ER->World->Prop)(g:Nat)(b:World)(a:List OO)(W:World):Prop:=c (Lp g a) W/\KC b W
theorem QW {w:List ER->World->Prop}{k:World}(l:OwnFrom q w)(m:q<=G):OwnFrom G (CI w g k):=by
 intro s A C a c d f;have h:∀r,a=some r->∃o:Obj,A.heap[r]?=some o/\o.isCells=false:=λr e=>(f r e).2
 refine⟨l _ A C a c.1 d (λr e=>⟨nt m (f r e).1,(f r e).2⟩),λb n t p i u v=> ?_,nt c.2.size d.size⟩;have j:=c.2.same b n t p i u v;exact(grownBy_keeps_cells d h j rfl).trans j
theorem I1 {n c k:Nat}(h:W.ownsRow g e k (r n c) n l):n<=c/\c<=9223372036854775807:=by
 rcases h.2 with⟨h,f⟩|⟨j,a,b,h,_,_,i,d,_⟩
 .simp only[oa]at h;omega
 simp only[oa,true_and]at h;obtain⟨_,rfl⟩:=h;simp only[maxLen]at d;omega
theorem XT (n m pb eb cv A:Nat)(H t:Option Addr)(cs:List Value)(ac:∀w∈cs,w.oneCell'=true)(I:List Int)(hP:Bk u pb 44 #[.slice H n cv])(y:Rd u u.heap.size H n 3 cs)(hQ:Bk u eb 22 #[.slice t m A])(L:i7 u 3 t m 1 (aC I))(hn:n<=100000000000)(hm:m<=100000000000):
  qd Tryz.prog 112 #[.pointer (some ⟨pb,0,none⟩),.pointer (some ⟨eb,0,none⟩)] X9 (VC n cs I) KC (SC n I) 10 u:=by
 intro l k aR W hk hl M N hY h0;have O:=hP.below M;have P:=hQ.below M;have ad:=y.below M (ae _);have ak:=L.below M;have aE:=M.size;have p0:W.cell? ⟨pb,0,none⟩=some (.slice H n cv):=O.cell 0;have e0:W.cell? ⟨eb,0,none⟩=some (.slice t m A):=P.cell 0;have zp:=O.lt;have ze:=P.lt;clear hP hQ y L;refine callsIn_of_wp_marks Tryz.func112 rfl trivial ?_ rfl;simp only[Tryz.ntmps112,List.size_toArray,aV,ln,Nat.reduceAdd,Nat.reduceSub,Array.replicate_succ,Array.replicate_zero,List.push_toArray,List.append_toArray,pG,nw]
 gi_wp2_with fail
 gi_region_with (first
  |(refine⟨trivial,λ_=>nt (by decide) hk,?_⟩;gi_at_call 110;refine(callsIn_wide.2 (za _ u.heap.size H n cv cs ac ((ad.alloc (by omega) _).drew) (by simp;omega) (by omega))).mono ?_;rintro e a ⟨v,rfl,b,al⟩;have j:=lC al;have e1:=ah j (dE _ e0);obtain⟨B,Q,rfl,-⟩:=Rd.U b)
  |(refine⟨trivial,λ_=>nt (by decide) hk,?_⟩;gi_at_call 113;refine(callsIn_wide.2 (Uc B t n Q m A a)).mono ?_;rintro e w' ⟨rfl,rfl⟩))
 all_goals
  obtain⟨g,hg⟩:∃g,0<n->B=some ⟨g,0,none⟩:=by
   by_cases h:0<n
   .obtain⟨g,aL,R,_,_⟩:=b.form h;simp only[oa,true_and]at R;exact⟨g,λ_=>R.1⟩
   exact⟨0,λh'=>absurd h' h⟩
  have z:=I1 b;have S:Bk a W.heap.size 198 #[.func (.yield l) #[] #[]]:=(pL W (.func (.yield l) #[] #[]) 198).below j;have aM:=S.lt;have ao:=(ak.below ((gD _ _).alloc (ae _) (.cells #[.func (.yield l) #[] #[]] 198))).below j
  gi_wp2_with fail
  obtain⟨i,c⟩:∃i,(a.alloc (.cells #[.slice B n Q] 44)).alloc (.cells #[.slice t m A] 22)=i:=⟨_,rfl⟩
  have aN:i.heap.size=a.heap.size+2:=by rw[<-c];simp
  have q:Below a.heap.size a i:=by rw[<-c];exact((gD _ _).alloc (ae _) _).alloc (by simp) _
  have ap:Bk i a.heap.size 44 #[.slice B n Q]:=by rw[<-c];exact(pL _ _ _).alloc _
  have aq:Bk i (a.heap.size+1) 22 #[.slice t m A]:=by rw[<-c];exact ur _ _ _ _
  have ar:=ao.below q;have av:=S.below q;have C:i7 i 196 B n 3 cs:=(jX b).below q;have aw:aR [] i:=by have a1:=N.alloc (.cells #[.func (.yield l) #[] #[]] 198) h0;have a2:aR [] a:=N [] _ a none a1 (az j none) (λr e=>by cases e);exact N [] _ i none a2 (az q none) (λr e=>by cases e)
  rw[c];clear c;have HY:=J hY;have HJ:=J N;clear hY N;refine Bj (d:=8) (by omega) (gf:=146) (lb:= #[.pointer (some ⟨a.heap.size+1,0,none⟩),.pointer (some ⟨a.heap.size,0,none⟩)]) rfl (enters_of Tryz.func146 (by kernel_rfl) rfl) (λ_=>rfl)
   (Ud i _ _ g 0 n Q m A B t I aq ap ar hg z.1 z.2 (by omega))
   (λh k=>h.trans k) (λW l o o' h hc=>KC.put W l o o' h hc) (λ_ _ _ _ _ _ h _ _=>h)
   (CI aR g i) (QW HJ (by omega)) ⟨aw,KC.refl _⟩
   (λx=> {tmps:= #[.func (.yield l) #[] #[],.pointer (some ⟨pb,0,none⟩),.pointer (some ⟨eb,0,none⟩),.pointer (some ⟨W.heap.size,0,none⟩),.int .i64 (x.1:Int),.slice (some ⟨g,x.2.1*3,none⟩) (x.2.2+1 - x.2.1) (x.2.2+1 - x.2.1),.slice H n cv,.slice B n Q,.slice t m A,.func (.func 146) #[] #[.pointer (some ⟨a.heap.size+1,0,none⟩),.pointer (some ⟨a.heap.size,0,none⟩)],.int .i64 (x.1:Int),.slice (some ⟨g,x.2.1*3,none⟩) (x.2.2+1 - x.2.1) (x.2.2+1 - x.2.1),undef,undef,undef,undef,undef],defers:=[]}) ?assign ?body ?done
  case assign=>
   intro l2 x E K hK;simp only[Ya,mU]
   gi_wp2
   exact hK
  case body=>
   rintro l2 T ⟨F,f,e⟩ E ⟨G,s⟩ ⟨U,V,X⟩;dsimp only at V X ⊢;have aQ:E.cell? ⟨W.heap.size,0,none⟩=some (.func (.yield l) #[] #[]):=(s.bk av (by decide) (by decide)).cell 0;obtain rfl:=hg (by omega);have R:VC n cs I (Lp g T) (F,f,e,g) E:=by refine⟨?_,V,X,s.rS C (by decide) (by decide)⟩;have:=U.map (λp:OO=>(p.1,p.2.1,p.2.2,g));simpa [Lp]using this
   obtain⟨fn,ay,ab,aD,hy,hR⟩:=HY _ (F,f,e,g) E G R;simp only[X9]at hy;clear U R
   gi_wp2
   refine⟨rfl,?_⟩;refine(RoundIn.wide hR).mono ?_;rintro e3 W3 ⟨rfl,Y,qM,Z⟩;have aa:Hid (CI aR g i (T++[(F,f,e)]) W3/\KC E W3/\KeepsOthers E W3):=by refine⟨⟨by simpa [Lp]using Y,s.trans qM⟩,qM,Z⟩
   clear Y qM Z
   gi_wp2
   exact aa
  case done=>
   rintro D ys E hD hS ⟨G,s⟩ hK;have HS:=J hS;clear hS
   gi_wp2
   refine⟨by simp,.inl ⟨_,_,rfl,run_takeDeferred hK,?_⟩⟩;refine⟨_,results_none rfl _ _ _,⟨_,rfl⟩,_,⟨g,?_⟩,HJ.putObj _ G (by omega) hK rfl⟩;have h:=HS.out;unfold SP at h;rw[<-h]
end
section
attribute [-go_sem] Builtin.append_
theorem uf {c:Nat}{v:Value}{n:Nat}(h:W.ownsRow c e q v n l)(b:Bk W g t V)(a:t≠e)(i:Nat)(u:Value):(W.setCell (g,i) u).ownsRow c e q v n l:=h.kept (fZ W (g,i) u) (dC h b a)
theorem Oi (Bd p gm cm:Nat)(gl:Gl)(s:PS)(rv:Rows)(K:Nat)(A:Option Addr)(n c:Nat)(ws:List P3)(t:B)(l:List B)(G:ie u Bd p gm cm gl s rv K)(P:lR u A n ws)(U:af ws=t::l)(hK:K<=10000000000)(hc:n<=c):
  Calls Tryz.prog 60 #[.pointer (p,0),A n c] u (iS u Bd p gm cm gl (K+n) (tq s l)):=by
 have Q:n=l.length+1:=by rw[<-P.length];exact dR U
 have hB:=G.size;have aE:=P.i;cases l with
 |nil=>
  have HR:Hid (tq s []=.error 22):=rfl;simp only[ln]at Q;subst Q;clear G P U hc;go_enter Tryz.func60,Tryz.ntmps60
  go_wp2;go_ret
  exact iS.bad HR (gD _ _)
 |cons g r=>
  obtain⟨A',av,V,H⟩:=P.sub hc 2 2 rfl (by simp at Q;omega);obtain⟨b,o,rfl,hb,q1,ak⟩:=P.word (k:=1) (t:=g) (by rw[U];rfl) (d:=3) rfl;have HP:=J G;have al:p<u.heap.size:=G.par.lt;obtain⟨A0,c0,hv⟩:=G.slice (i:=3) (by decide);have kp:u.cell? (p,4)=some (rv 3).v:=G.par.cell 4;rw[hv]at kp;have aw:=G.i 3 (by decide);have tK:=J (λu rb er h=>BZ u rb p er g h);have q:af (ws.drop 2)=r:=by rw[GK,U];rfl
  have W:=J (λa rb (hr:i8 a rb p (bQ 0 g)) (hb:Below u.heap.size u a)=>yJ a rb p (bQ 0 g) A' (n - 2) (c - 2) (ws.drop 2) hr (V.below hb) H (by omega));rw[q]at W;have HR:Hid (tq s (g::r)=fin (gu (bQ 0 g) r) {s with f:= {s.f with a':=s.f.a'++[⟨g,r.map aI⟩]}}):=rfl;have ao:=J (λ(u:World) S=>FU u S (r.map aI) (JO r));have ap:Hid (n - 2=(r.map aI).length):=by show _=_;simp at Q ⊢;omega
  have aL:2<=n:=by simp at Q;omega
  have en:((n:Int)<2)=False:=by simp;omega
  clear G P U V H Q ak q;go_enter Tryz.func60,Tryz.ntmps60
  go_wp2_with fail
  refine(iE u p).mono ?_;rintro e a ⟨rfl,L,E⟩;obtain⟨X,aq⟩:=aj E;have TV:a.cell? (b,o+3+2)=some (.string g):=(X _ _ hb).trans q1;have aM:=L.lt;have ar:=E.size;have aQ:b<a.heap.size:=by omega
  have mg:=J (L.alloc (.cells #[.string ⟨#[]⟩,()] 73));have Y:=J (E.alloc ar (.cells #[.string ⟨#[]⟩,()] 73));have uA:Hid (Bk (a.alloc (.cells #[.string ⟨#[]⟩,()] 73)) a.heap.size 73 #[.string ⟨#[]⟩,()]):=Bk.new _ _ _;clear L E X aq;go_wp2_with fail
  refine(tK _ _ _ (by exact mg)).mono ?_;rintro e w2 ⟨rfl,Z,M⟩;have aa:=bu Y M (ae _);have w:Bk w2 a.heap.size 73 #[.string ⟨#[]⟩,()]:=Bk.L M uA (by omega);have FV:w2.cell? (a,0)=some (.string ⟨#[]⟩):=w.cell 0;have y2:=w.frozen 0;have a1:=w.lt;have nO:Hid (i8 (w2.setCell (a,0) (.string g)) u.heap.size p (bQ 0 g)):=Bk.I Z (by simp;omega) _;have N:=J (aa.setCell (p:=(a,0)) (by simp;omega) (.string g));have lZ:Hid (Bk (w2.setCell (a,0) (.string g)) a.heap.size 73 #[.string g,()]):=w.set 0 _;clear Z M aa w;go_wp2_with fail
  refine(W _ _ (by exact nO) (by exact N)).mono ?_;rintro e w3 ⟨v,rfl,I,ay,rfl,bW,ab,O⟩;have ac:=bu N O (ae _);have x:Bk w3 a.heap.size 73 #[.string g,()]:=Bk.L O lZ (by omega);have JH:w3.cell? (a,1)=some (.slice none 0 0):=x.cell 1;have y3:=x.frozen 1;obtain⟨j,y⟩:∃j,w3.setCell (a,1) (I (n - 2) ay)=j:=⟨_,rfl⟩
  have ou:i8 j u.heap.size p (gu (bQ 0 g) r):=y ▸ Bk.I ab (by simp;omega) _;have z:Below u.heap.size u j:=y ▸ (ac.setCell (p:=(a,1)) (by simp;omega) (I (n - 2) ay));have lM:Bk j a.heap.size 73 #[.string g,I (n - 2) ay]:=y ▸ x.set 1 _;have C:=uf bW x (by decide) 1 (I (n - 2) ay);rw[y]at C;have F:=HP.below z;have Au:j.cell? (p,4)=some (A0 (rv 3).n c0):=((aj z).1 _ _ al).trans kp;have yD:j.cell? (a,0)=some (.string g):=lM.cell 0;have Am:j.cell? (a,1)=some (I (n - 2) ay):=lM.cell 1;have zp:p<j.heap.size:=F.par.lt;have zc:a.heap.size<j.heap.size:=lM.lt;have D:=F.live.own 3 (by decide);rw[hv]at D;obtain⟨A5,c5,w9,aD,aW,T,bF⟩:=jh LP 27 j Bd _ c0 A0 _ #[.string g,I (n - 2) ay] rfl D (by simp[Value.oneCell']) (by omega) F.size;rw[<-hv]at T bF;have cZ:Bk w9 p kJ (eQ s rv gm cm):=(F.row (i:=3) (by decide) (r:=⟨A5 ((rv 3).n+1) c5,_,_⟩) T aW bF).1;have kM:=Bk.grown ou T (F.live.own 3 (by decide)) (by decide);have x9:w9.cell? (p,4)=some (rv 3).v:=cZ.cell 4;have y9:=cZ.frozen 4;have z9:w9.cell? ⟨u.heap.size,1,none⟩=some (.int .i64 (gu (bQ 0 g) r)):=kM.cell 1;have ad:kn j (Fz j rv) [.string g,I (n - 2) ay] ⟨g,r.map aI⟩:=by rw[ap.out]at C ⊢;refine⟨I,ay,rfl,Sl.pk C (ao _ _) (HP.fresh C ?_ (by decide)) (by decide)⟩;simp;omega
  have bZ:=J (ie.art (m:=1) (K':=K+n) F T aW bF (ys:=[⟨g,r.map aI⟩]) rfl (Fl.one (R:=kn) ad rfl) (by omega));have jd:=J ((z.mono hB).trans (F.qD (i:=3) (by decide) T 4 (A5 ((rv 3).n+1) c5) F.size));have HQ:=J (KQ.below (cm:=cm) z);clear D aW T bF cZ kM F ad C z ou lM bW ab O ac x nO N lZ mg Y uA;go_wp2_with fail
  try rw[y]
  go_region
  all_goals
   go_wp2;go_ret
   exact iS.fin HR jd (HQ.trans bZ.2) bZ.1
theorem Cu (s:PS)(l:List B)(h:l.length≠4):rV s l=.error 22:=by
 unfold rV;split
 .rfl
 split
 .simp at h
 rfl
theorem Uk (w:World)(Bd p gm cm:Nat)(gl:Gl)(s:PS)(rv:Rows)(K:Nat)(A:Option Addr)(n c:Nat)(ws:List P3)(t:B)(l:List B)(N:ie w Bd p gm cm gl s rv K)(hL:lR w A n ws)(hT:af ws=t::l)(hK:K<=10000000000)(hc:n<=c){aN:List hU}{g:hU}(Q:s.f.ga=aN++[g]){G n0 c9 q:Nat}(T:(rv 0).v=.slice (G,0) n0 c9)(hq:q=aN.length*9):
  Calls Tryz.prog 54 #[.pointer (p,0),A n c,.pointer (G,q)] w (iS w Bd p gm cm gl (K+n) (rV s l)):=by
 have hn:n=l.length+1:=by rw[<-hL.length];exact dR hT
 have hB:=N.size;by_cases h1:l.length=4
 .obtain⟨z,C,D,E,rfl⟩:∃z C D E,l=[z,C,D,E]:=by
   match l,h1 with
   |[a,b,c,d],_=>exact⟨a,b,c,d,rfl⟩
  obtain⟨A',U,V,aM⟩:=hL.sub hc 1 1 rfl (by omega);simp only[aV,ln]at hn;subst hn;have HP:=J N;obtain⟨L,aa,ci,gv,-,-,ab,lH,Ez,xK⟩:=N.sr Q;obtain⟨rfl,ac,rfl⟩:L=G/\aN.length+1=n0/\aa=c9:=by rw[gv]at T;simpa using T
  have O:L<w.heap.size:=ab;obtain⟨A0,c0,hv⟩:=N.slice (i:=12) (by decide);have kp:w.cell? (L,q+7)=some (rv 12).v:=by rw[hq];exact lH 7 (by decide)
  rw[hv]at kp;have aq:=N.i 12 (by decide);have HR:Hid (rV s [z,C,D,E]=fin (gu 0 [z,C,D,E]) {s with f:= {s.f with ga:=aN++[{g with gx:=g.gx++[⟨aI z,aI C,aI D,aI E⟩]}]}}):=by show _=_;unfold rV;rw[if_neg (AO Q)];simp only;rw[yc s _ Q]
  have Hs:=J Q;have Hq:=J hq;have H0:=J T;have yj:=J xK;have ad:=J (dU z);have ak:=J (dU C);have al:=J (dU D);have ao:=J (dU E);have F:=J (λw1 rb (hr:i8 w1 rb p 0) (hb:Below w w w1)=>yJ w1 rb p 0 A' (0+1+1+1+1+1 - 1) (c - 1) (ws.drop 1) hr (V.below hb) aM (by omega));rw[kX hT]at F;have W:Hid (aC (List.map aI [z,C,D,E])=[.int .i64 (aI z),.int .i64 (aI C),.int .i64 (aI D),.int .i64 (aI E)]):=rfl;rw[W.out]at F;generalize gu 0 [z,C,D,E]=er at*
  generalize aI z=v1 at*
  generalize aI C=v2 at*
  generalize aI D=v3 at*
  generalize aI E=v4 at*
  clear N hL hT V aM Q hq T gv lH Ez xK ac W h1;simp only[mU,Nat.reduceAdd,Nat.reduceSub]at U F hK ⊢;go_enter Tryz.func54,Tryz.ntmps54
  go_wp2_with fail
  refine(iE w p).mono ?_;rintro e w1 ⟨rfl,X,H⟩;have av:=H.size;go_wp2_with fail
  refine(F _ _ X H).mono ?_;rintro e I ⟨v,rfl,A4,c4,rfl,bW,Y,Z⟩;have k:=bu H Z (ae _);obtain⟨M,P,rfl,o,x⟩:∃M P,A4=some ⟨M,0,none⟩/\Bk I M 3 P/\∀j u,[Value.int .i64 v1,.int .i64 v2,.int .i64 v3,.int .i64 v4][j]?=some u->P[j]?=some u:=by
   rcases bW.2 with⟨_,h⟩|⟨g,aw,r,e,_,hh,_,_,_,ap⟩
   .omega
   simp only[oa,true_and]at e;obtain⟨rfl,-⟩:=e;refine⟨g,r,rfl,hh,λj u hu=> ?_⟩;rw[<-ap,pY]at hu;split at hu
   .simpa using hu
   cases hu
  have m0:I.cell? ⟨M,0,none⟩=some (.int .i64 v1):=(o.cell 0).trans (x 0 _ rfl);have m1:I.cell? ⟨M,1,none⟩=some (.int .i64 v2):=(o.cell 1).trans (x 1 _ rfl);have m2:I.cell? ⟨M,2,none⟩=some (.int .i64 v3):=(o.cell 2).trans (x 2 _ rfl);have m3:I.cell? ⟨M,3,none⟩=some (.int .i64 v4):=(o.cell 3).trans (x 3 _ rfl);have aD:M<I.heap.size:=o.lt;have k2:I.cell? (L,q+7)=some (A0 (rv 12).n c0):=((aj k).1 _ _ O).trans kp;have aE:L<I.heap.size:=mz O k.size;have S:=HP.below k;have y:=S.live.own 12 (by decide);rw[hv]at y;obtain⟨A5,c5,w9,ar,aW,ay,bF⟩:=jh Hl 49 I Bd _ c0 A0 _ #[v1,v2,v3,v4] rfl y (by simp[Value.oneCell']) (by omega) S.size;rw[<-hv]at ay bF;obtain⟨Np,cZ,vP⟩:∃r,Bk w9 L 52 r/\r[q+7]?=some (rv 12).v:=by obtain⟨r,bf⟩:=yj;exact⟨r,Bk.grown (bf.keep (k.block L O)) ay (S.live.own 12 (by decide)) (by decide),by rw[<-bf.cell,kp,hv]⟩
  have kM:=Bk.grown Y ay (S.live.own 12 (by decide)) (by decide);have x9:w9.cell? (L,q+7)=some (rv 12).v:=(cZ.cell _).trans vP;have y9:=cZ.frozen (q+7);have z9:w9.cell? (w,1)=some (.int .i64 er):=kM.cell 1;have bZ:=J (ie.arp (m:=1) (K':=K+5) S Hs H0 ay aW bF (ys:=[⟨v1,v2,v3,v4⟩]) rfl (Fl.one (R:=md) (⟨rfl,ad,ak,al,ao⟩) rfl) (by omega));rw[<-Hq.out]at bZ;have jd:=J (k.mono hB);have HQ:=J (KQ.below (cm:=cm) k);clear y aW ay bF cZ kM S k bW Y Z H X o x vP;go_wp2_with fail
  go_region
  all_goals
   go_wp2;go_ret
   obtain⟨aL,g1,g2,g3,-⟩:=bZ;exact iS.fin HR (jd.trans g3) (HQ.trans g2) g1
 have HR:=J (Cu s l h1);have e1:((n:Int)==5)=false:=by simp;omega
 have e2:((n:Int) !=5)=true:=by simp;omega
 clear N hL hT h1 hn Q T hq;go_enter Tryz.func54,Tryz.ntmps54
 go_wp2;go_ret
 exact iS.bad HR (gD _ _)
end
section
open Go.Shelf
theorem Fl.flat {R:Rel b}(f:b->List Value)(a:∀x,(f x).length=g)(d:∀W S A x,R W S A x->A=f x){S:Bs}{C:List b}(h:Fl R g W S l C):l=C.flatMap f:=by
 induction C generalizing l with
 |nil=>simpa [Fl]using h.1
 |cons x C e=>
  have α:=h.1;simp only[aV]at α;obtain⟨A,z,t,v⟩:=h.2 0 x rfl;obtain rfl:=d _ _ _ _ z;have m:l.take g=f x:=by
   apply List.ext_getElem?;intro i;by_cases hi:i<g
   .have:i<(f x).length:=by rw[a];exact hi
    have c:=v i _ (jO this);rw[pY,if_pos hi];rw[Nat.zero_mul,mU]at c;rw[c,jO this]
   rw[qn (by simp;omega),qn (by rw[a];omega)]
  have n:l.drop g=C.flatMap f:=by apply e;refine⟨by simp[α,rF],λk y o=> ?_⟩;obtain⟨A,p,q,r⟩:=h.2 (k+1) y (by simpa using o);refine⟨A,p,q,λj u s=> ?_⟩;rw[List.getElem?_drop,show g+(k*g+j)=(k+1)*g+j by rw[rF];omega];exact r j u s
  rw[nW,<-m,<-n,rA]
def AA (p:Pt):List Value:=[.int .i64 p.x,.int .i64 p.y,.bool p.on]
def jm (l:List Pt):List Value:=l.flatMap AA
theorem Rj (l:List Pt):∀u∈jm l,u.oneCell'=true:=by intro u a;simp only[jm,rz]at a;obtain⟨p,_,b⟩:=a;simp only[AA,lx,qp,or_false]at b;rcases b with rfl|rfl|rfl<;>rfl
theorem Sl.rd {R:Rel b}{p:Nat}(f:b->List Value)(g:∀x,(f x).length=p)(i:∀W S A x,R W S A x->A=f x){q:List b}(h:Sl R p W (FT W) r q):Rd W W.heap.size r q.length p (q.flatMap f):=by
 obtain⟨a,d,j⟩:=h;have e:=d.flat f g i;subst e;exact⟨d.1,λk=>by
  obtain⟨α,o,e,l,m⟩:=j k;obtain⟨n,c,-⟩:=l;exact⟨α,o,e,(mq.1 c).1,m⟩⟩
theorem Sl.ase (h:Sl lr 3 W (FT W) r k):Rd W W.heap.size r k.length 3 (jm k):=h.rd AA (λ_=>rfl) (λ_ _ _ _ h=>h.1)
theorem DP (b:List Int):b.flatMap (λz=>[Value.int .i64 z])=aC b:=by
 induction b with
 |nil=>rfl
 |cons x b a=>rw[nW,a];rfl
theorem Sl.Z2 (h:Sl gS 1 W (FT W) r U):Rd W W.heap.size r U.length 1 (aC U):=by
 have:=h.rd (λz=>[.int .i64 z]) (λ_=>rfl) (λ_ _ _ _ h=>h.1)
 rwa [DP]at this
theorem V2 (h:Sl lr 3 W (FT W) r k):∀p∈k,gN p.x/\gN p.y:=by intro p c;obtain⟨A,a⟩:=pn.1 c;obtain⟨b,o,x,-,-,d,-,-,-,e,f⟩:=h.pt (ll.1 a).1;have:=d.out;rw[a]at this;cases this;exact⟨e,f⟩
def yu (a:List Pt)(f e:Nat):List Pt:=(a.take (e+1)).drop f
theorem Hi (a:List Pt)(k:Nat)(p:Pt)(h:a[k]?=some p):(jm a)[k*3]?=some (.int .i64 p.x)/\(jm a)[k*3+1]?=some (.int .i64 p.y)/\(jm a)[k*3+2]?=some (.bool p.on):=by
 induction a generalizing k with
 |nil=>simp at h
 |cons q b c=>
  cases k with
  |zero=>simp at h;subst h;simp[jm,AA]
  |succ k=>
   have:=c k (by simpa using h);have e:jm (q::b)=AA q++jm b:=rfl;simp only[e];refine⟨?_,?_,?_⟩<;>rw[ri (by simp[AA];omega)]<;>simp only[AA,aV,ln]
   .rw[show(k+1)*3 - (0+1+1+1)=k*3 by omega];exact this.1
   .rw[show(k+1)*3+1 - (0+1+1+1)=k*3+1 by omega];exact this.2.1
   rw[show(k+1)*3+2 - (0+1+1+1)=k*3+2 by omega];exact this.2.2
theorem M8 {n:Nat}(h:i7 W 196 (g,0) n 3 (jm k))(G:n=k.length)(s:∀p∈k,gN p.x/\gN p.y)(f e:Nat)(t:f<=e)(he:e<n):Sl lr 3 W (FT W) (g,f*3) (yu k f e):=by
 obtain⟨b,o,v,q,r,w⟩:=h.2 (by omega);simp only[n',Addr.mk.injEq,and_true]at q;obtain⟨rfl,rfl⟩:=q;have m:∀a x,(yu k f e)[a]?=some x->k[f+a]?=some x:=by
  intro a x d;rw[yu,List.getElem?_drop,pY]at d;split at d
  .exact d
  cases d
 refine⟨jm (yu k f e),⟨?_,λa x d=> ?_⟩,λ_=>⟨g,f*3,rfl,Hy r (by decide) (by decide),λj u c=> ?_⟩⟩
 .have:∀l:List Pt,(jm l).length=l.length*3:=by
   intro l;induction l with
   |nil=>rfl
   |cons x l i=>simp only[jm,nW,la,AA,aV,ln]at i ⊢;omega
  exact this _
 .refine⟨AA x,⟨rfl,s x (kj (m a x d))⟩,rfl,λj u c=> ?_⟩;obtain⟨z,A,B⟩:=Hi _ a x d
  match j,c with
  |0,c=>simp[AA]at c;subst c;exact z
  |1,c=>simp[AA]at c;subst c;exact A
  |2,c=>simp[AA]at c;subst c;exact B
 rw[Bk.cell r];have C:(jm k)[f*3+j]?=some u:=by
  have D:jm (yu k f e)=((jm k).take ((e+1)*3)).drop (f*3):=by
   have E:∀(l:List Pt) (a:Nat),jm (l.take a)=(jm l).take (a*3):=by
    intro l;induction l with
    |nil=>intro a;simp[jm]
    |cons x l i=>
     intro a;cases a with
     |zero=>simp[jm]
     |succ a=>have:=i a;simp only[jm,List.take_succ_cons,nW]at this ⊢;rw[this,show(a+1)*3=a*3+3 by omega];simp[AA]
   have F:∀(l:List Pt) (a:Nat),jm (l.drop a)=(jm l).drop (a*3):=by
    intro l;induction l with
    |nil=>intro a;simp[jm]
    |cons x l i=>
     intro a;cases a with
     |zero=>simp[jm]
     |succ a=>have:=i a;simp only[jm,List.drop_succ_cons,nW]at this ⊢;rw[this,show(a+1)*3=a*3+3 by omega];simp[AA]
   rw[yu,F,E]
  rw[D,List.getElem?_drop,pY]at c;split at c
  .exact c
  cases c
 have:=w _ _ C
 rwa [mU]at this
theorem Ru (a:List Pt)(f e:Nat)(h:e<a.length):(yu a f e).length=e+1 - f:=by simp[yu];omega
def yF (a:List Pt)(x:ER):B:=aJ ik ((yu a x.2.1 x.2.2.1).map jZ)
theorem Hv (a:List Pt)(b:List Int):∀(k f:Nat),(qV a.length k f b).map (λp=>yu a p.2.1 p.2.2)=fV a f b:=by
 induction b with
 |nil=>intro k f;rfl
 |cons e b c=>
  intro k f;rw[qV,fV];by_cases h:(f:Int)<=e/\e<(a.length:Int)
  .rw[if_pos h,if_neg (by omega),lP,c];rfl
  rw[if_neg h,if_pos (by omega)];rfl
theorem LD (a:List Pt)(b:List Int)(g:Nat):(Lp g (qV a.length 0 0 b)).flatMap (yF a)=(fV a 0 b).flatMap (λc=>aJ ik (c.map jZ)):=by rw[<-Hv a b 0 0,Lp,List.flatMap_map,List.flatMap_map];rfl
def vM (w a:World)(c g:Nat)(b:Nat->Value)(T:B)(W:World):Prop:=Pr W c g b T/\KP a W/\Below c w W
theorem Uf {c:World}{d:Nat->Value}{row:Option Nat}(h:Pr W q g d T)(f:W.grownBy c row)(i:∀r,row=some r->∃o:Obj,W.heap[r]?=some o/\o.isCells=false):Pr c q g d T:=by
 obtain⟨m,v,n,j,p,k⟩:=h;refine⟨m,v,n,(grownBy_keeps_cells f i j rfl).trans j,p,k.kept f ?_⟩;cases a:row with
 |none=>cases u:v.ownBlock<;>simp
 |some r=>refine .inr (λe=> ?_);obtain⟨o,l,w⟩:=i r a;obtain⟨s,t⟩:=iI k r e;have b:W.heap[r]?=_:=t;rw[b]at l;cases l;cases w
theorem Tm {c:World}{row:Option Nat}(h:KP a W)(d:W.grownBy c row)(i:∀r,row=some r->a.heap.size<=r):KP a c:=
 ⟨λb o f j=>by
  have g:=h.same b o f j;refine(d.block b (mq.1 g).1 (λe=> ?_)).trans g;have:=i b e.symm;have:=(mq.1 f).1;omega,nt h.size d.size⟩
theorem Lz {p:Nat}{k:Nat->Value}(F:List ER->B)(h:a.heap.size<=f)(i:p<=a):OwnFrom f (λb w=>vM W a p g k (F b) w):=by intro s A C l m c d;obtain⟨n,j,o⟩:=m;refine⟨Uf n c (λr e=>(d r e).2),Tm j c (λr e=>nt h (d r e).1),?_⟩;exact o.grown c (nt i j.size) (λr e=>nt (nt i h) (d r e).1)
end
section
attribute [-go_sem] Builtin.append_
def DY (l:List mC):List Value:=l.flatMap λt=>[.int .i64 t.start,.int .i64 t.jx,.int .i64 t.jz]
theorem EA (a b:List mC):DY (a++b)=DY a++DY b:=by simp[DY]
theorem Gx:∀(a b:List Int),a.length % 3=0->dX (a++b)=dX a++dX b
 |[],b,_=>rfl
 |[x],b,h=>by simp at h
 |[x,y],b,h=>by simp at h
 |x::y::z::r,b,h=>by
  have c:r.length % 3=0:=by simp only[aV]at h;omega
  show⟨x,y,z⟩::dX (r++b)=⟨x,y,z⟩::(dX r++dX b)
  rw[Gx r b c]
theorem PT:∀(a:List Int),(∀x∈a,gN x)->∀t∈dX a,gN t.start/\gN t.jx/\gN t.jz
 |[],_,t,ht=>by simp[dX]at ht
 |[x],_,t,ht=>by simp[dX]at ht
 |[x,y],_,t,ht=>by simp[dX]at ht
 |x::y::z::r,h,t,ht=>by
  have ht:t∈⟨x,y,z⟩::dX r:=ht;rcases lx.1 ht with rfl|ht
  .exact⟨h x (by simp),h y (by simp),h z (by simp)⟩
  exact PT r (λu b=>h u (by simp[b])) t ht
theorem PU:∀(a:List Int),(dX a).length<=a.length
 |[]=>ae _
 |[x]=>by simp[dX]
 |[x,y]=>by simp[dX]
 |x::y::z::r=>by
  show(⟨x,y,z⟩::dX r:List mC).length<=_;have:=PU r;simp only[aV];omega
theorem NB (S:Bs)(l:List mC)(h:∀t∈l,gN t.start/\gN t.jx/\gN t.jz):Fl oT 3 u S (DY l) l:=by
 induction l with
 |nil=>exact Fl.nil
 |cons x r a=>obtain⟨b,c,d⟩:=h x (by simp);exact(Fl.one (R:=oT) (cs:=[.int .i64 x.start,.int .i64 x.jx,.int .i64 x.jz]) ⟨rfl,b,c,d⟩ rfl).append (a (λy e=>h y (by simp[e])))
theorem three (h:U.length % 3=0)(a:U≠[]):∃x y z r,U=x::y::z::r:=by
 match U,h,a with
 |[],_,a=>exact absurd rfl a
 |[x],h,_=>simp at h
 |[x,y],h,_=>simp at h
 |x::y::z::r,_,_=>exact⟨x,y,z,r,rfl⟩
theorem i7.apart {n p c2:Nat}{s:Option Addr}{v:List Value}(h:i7 W t r n p l)(A:W.ownsRow q e f (s g c2) g v)(i:W.grownBy a (Value.slice s g c2).ownBlock)(c:t≠e):i7 a t r n p l:=
 ⟨h.1,λj=>by
  obtain⟨b,o,d,k,w,m⟩:=h.2 j;exact⟨b,o,d,k,Bk.grown w i A c,m⟩⟩
theorem i7.vE {n:Nat}(h:i7 W t r n q l)(j:Bk W g e V)(c:t≠e)(i:Nat)(u:Value):i7 (W.setCell (g,i) u) t r n q l:=
 ⟨h.1,λk=>by
  obtain⟨b,o,d,A,a,m⟩:=h.2 k;refine⟨b,o,d,A,Bk.I a (λp=> ?_) u,m⟩;subst p;exact c (dw a j).1⟩
abbrev Gv:TypeId:=80
def tj (w:World)(h p D:Nat)(i:Int)(a:List Int)(v:Value)(j:World):Prop:=
 ∃(b d:List Int) (A:Option Addr) (m c:Nat) (f:Option Addr) (e g:Nat),v= A m c/\a=b++d/\b.length % 3=0/\d.length % 3=0/\m=d.length/\m<=c/\i7 j 3 A m 1 (aC d)/\
  j.ownsRow w.heap.size 77 3 (f e g) e (DY (dX b))/\e=(dX b).length/\Bk j D Gv #[f e g]/\i8 j h p i/\Below w w j
theorem Hh (x:Int)(l:List Int):aC (x::l)=.int .i64 x::aC l:=rfl
theorem tj.open {p:Nat}{v:Value}(h:tj W g p q E U v a)(N:W.heap.size<=q):∃A m c,v=.slice A m c/\((m=0/\∃f d i,a.ownsRow W.heap.size 77 3 (.slice f d i) d (DY (dX U))/\d=(dX U).length/\Bk a q Gv #[.slice f d i]/\i8 a g p E/\Below W W a)\/
  ∃b o x y z f d i D,A=some ⟨b,o,none⟩/\b<a/\a.cell? ⟨b,o,none⟩=some (.int .i64 x)/\a.cell? ⟨b,o+1,none⟩=some (.int .i64 y)/\a.cell? ⟨b,o+2,none⟩=some (.int .i64 z)/\3<=m/\a.ownsRow W.heap.size 77 3 (.slice f d i) d D/\d<=U.length/\Bk a q Gv #[.slice f d i]/\Below W W a/\
   ∀V c5 n,n.ownsRow W.heap.size 77 3 (.slice V (d+1) c5) (d+1) (D++[.int .i64 x,.int .i64 y,.int .i64 z])->a.grownBy n (Value.slice f d i).ownBlock->tj W g p q E U (.slice (if c=3 then A else A.map (·.add (3*1))) (m - 3) (c - 3)) (n.setCell (q,0) (.slice V (d+1) c5))):=by
 obtain⟨w,O,A,m,c,f,d,i,rfl,s,I,T,K,P,L,k,F,G,l,j⟩:=h;refine⟨A,m,c,rfl,?_⟩;by_cases M:O=[]
 .subst M;rw[pp]at s;subst s;exact .inl ⟨K,f,d,i,k,F,G,l,j⟩
 obtain⟨x,y,z,r,rfl⟩:=three T M;simp only[aV]at K T;obtain⟨b,o,Q,R,t,H⟩:=L.2 (by omega);refine .inr ⟨b,o,x,y,z,f,d,i,_,R,t.lt,(t.cell o).trans (H 0 _ rfl),(t.cell _).trans (H 1 _ rfl),(t.cell _).trans (H 2 _ rfl),by omega,k,?_,G,j,?_⟩
 .rw[F,s,la];have:=PU w;omega
 intro V c5 n S u;have B:=Bk.grown G u k (by decide);refine⟨w++[x,y,z],r,_,_,_,V,d+1,c5,rfl,by rw[s];simp,by simp only[la,aV,ln];omega,by omega,by omega,by omega,?_,?_,?_,B.set 0 _,?_,?_⟩
 .exact((L.apart k u (by decide)).vE B (by decide) 0 _).sub (by omega) P
 .rw[Gx w _ I,EA];exact uf S B (by decide) 0 _
 .rw[Gx w _ I,la,F];rfl
 .have:=Bk.grown l u k (by decide);refine Bk.I this (λe=> ?_) _;subst e;have:=(dw this B).1
  revert this
  decide
 exact(j.grown u j.size (λC e=>(k.lt C e).1)).setCell N _
theorem Qo (Bd p gm cm:Nat)(gl:Gl)(s:PS)(rv:Rows)(K:Nat)(A:Option Addr)(n c:Nat)(ws:List P3)(t:B)(l:List B)(o:ie u Bd p gm cm gl s rv K)(P:lR u A n ws)(hT:af ws=t::l)(hK:K<=10000000000)(hc:n<=c):
  Calls Tryz.prog 45 #[.pointer (p,0),A n c] u (iS u Bd p gm cm gl (K+n) (ui s l)):=by
 have hn:n=l.length+1:=by rw[<-P.length];exact dR hT
 have hB:=o.size;have ap:=P.i;by_cases h3:l.length % 3=0
 .obtain⟨A',Q,S,q⟩:=P.sub hc 1 1 rfl (by omega);have HP:=J o;have ac:p<u.heap.size:=o.par.lt;obtain⟨A0,c0,hv⟩:=o.slice (i:=5) (by decide);have kp:u.cell? (p,6)=some (rv 5).v:=o.par.cell 6;rw[hv]at kp;have ao:=o.i 5 (by decide);have F:=J (λd rb (hr:i8 d rb p 0) (hb:Below u u d)=>yJ d rb p 0 A' (n - 1) (c - 1) (ws.drop 1) hr (S.below hb) q (by omega));rw[kX hT]at F;have HR:Hid (ui s l=fin (gu 0 l) {s with f:= {s.f with d':=s.f.d'++[⟨dX (l.map aI)⟩]}}):=by show _=_;unfold ui;rw[if_neg (by omega)]
  have hI:=J (PT _ (JO l));have T:Hid ((l.map aI).length=n - 1):=by show _=_;simp;omega
  have ad:Hid ((l.map aI).length % 3=0):=by show _=_;simp;omega
  have er:(((n:Int) - 1).tmod 3 !=0)=false:=by rw[show(n:Int) - 1=(l.length:Nat) by omega];rw[Int.tmod_eq_emod_of_nonneg (by omega)];simp;omega
  have Ey:(((n:Int) - 1) % 3 !=0)=false:=by rw[show(n:Int) - 1=(l.length:Nat) by omega];simp;omega
  have aq:1<=n:=by omega
  generalize gu 0 l=G at*
  generalize l.map aI=a at*
  clear o P hT S q hn h3;go_enter Tryz.func45,Tryz.ntmps45
  go_wp2_with fail
  refine(iE u p).mono ?_;rintro e d ⟨rfl,H,I⟩;have ar:=H.lt;have U:=I.size;have mg:=J (H.alloc (.cells #[()] Gv));have ay:=J (I.alloc U (.cells #[()] Gv));have uA:Hid (Bk (d.alloc (.cells #[()] Gv)) d.heap.size Gv #[()]):=Bk.new _ _ _;clear H I;go_wp2_with fail
  refine(F _ _ (by exact mg) (by exact ay)).mono ?_;rintro e w2 ⟨v,rfl,A4,c4,rfl,bW,V,L⟩;have W:Bk w2 d.heap.size Gv #[()]:=Bk.L L uA (by omega);have HS:Hid (tj u u.heap.size p d.heap.size G a (A4 (n - 1) c4) w2):=⟨[],a,A4,n - 1,c4,none,0,0,rfl,rfl,rfl,ad,T.symm,yP bW,jX bW,World.ownsRow_nil _ _ _ _,rfl,W,V,bu ay L (ae _)⟩
  clear bW V L W mg ay uA Q F;go_wp2_with fail
  go_loopw [7] (λv wr=>tj u u.heap.size p d.heap.size G a v wr) (λv _=>match v with| .slice _ k _=>k|_=>0)
  case atStart=>exact HS
  case round=>
   obtain⟨A5,m,c5,rfl,⟨rfl,w,M,C,D,h8,E,X,b⟩|⟨b5,o5,x,y,z,w,M,C,xs,rfl,av,z0,z1,z2,hm,D,h8,E,b,Y⟩⟩:=tj.open hrel U
   .have j:=HP.below b;have Au:wr.cell? (p,6)=some (A0 (rv 5).n c0):=((aj b).1 _ _ ac).trans kp;have yD:wr.cell? (d,0)=some (w M C):=E.cell 0;have zp:p<wr.heap.size:=j.par.lt;have zc:d.heap.size<wr.heap.size:=E.lt;have g:=j.live.own 5 (by decide);rw[hv]at g;obtain⟨A6,c6,Z,aa,N,h,O⟩:=jh Di 29 wr Bd _ c0 A0 _ #[w M C] rfl g (by simp[Value.oneCell']) (by omega) j.size;rw[<-hv]at h O;have cZ:Bk Z p kJ (eQ s rv gm cm):=(j.row (i:=5) (by decide) (r:=⟨A6 ((rv 5).n+1) c6,_,_⟩) h N O).1;have kM:=Bk.grown X h (j.live.own 5 (by decide)) (by decide);have x9:Z.cell? (p,6)=some (rv 5).v:=cZ.cell 6;have y9:=cZ.frozen 6;have z9:Z.cell? (u,1)=some (.int .i64 G):=kM.cell 1;have ab:ko wr (Fz wr rv) [w M C] ⟨dX a⟩:=by rw[h8]at D ⊢;exact⟨w,C,rfl,Sl.pk D (NB _ _ _ hI) (HP.fresh D (ae _) (by decide)) (by decide)⟩
    have bZ:=J (ie.arx (m:=1) (K':=K+n) j h N O (ys:=[⟨dX a⟩]) rfl (Fl.one (R:=ko) ab rfl) (by omega));have jd:=J ((b.mono hB).trans (j.qD (i:=5) (by decide) h 6 (A6 ((rv 5).n+1) c6) j.size));have HQ:=J (KQ.below (cm:=cm) b);clear g N h O cZ kM j ab D E X b HS hrel h8;go_wp2_with fail
    go_region
    all_goals
     go_wp2;go_ret
     exact iS.fin HR jd (HQ.trans bZ.2) bZ.1
   have yD:wr.cell? (d,0)=some (w M C):=E.cell 0;have zc:d.heap.size<wr.heap.size:=E.lt;have ak:=T.out;obtain⟨A6,c6,Z,aa,N,h,O⟩:=jh zz 78 wr u.heap.size _ C w _ #[x,y,z] rfl D (by simp[Value.oneCell']) (by omega) (by omega);have bf:=Bk.grown E h D (by decide);have x9:Z.cell? (d,0)=some (w M C):=bf.cell 0;have y9:=bf.frozen 0;have al:=J (Y _ _ _ N h);have aw:=Xi Tryz.underlying22 Nt (b5,o5) m c5 3 3 rfl hm;clear N h O D E b HS hrel h8 Y bf ak;go_wp2_with fail
   go_region
   all_goals
    go_wp2;go_roundw
    case rel=>exact al
    case measure=>simp;omega
 have HR:Hid (ui s l=.error 22):=by show _=_;unfold ui;rw[if_pos h3]
 have er:(((n:Int) - 1).tmod 3 !=0)=true:=by rw[show(n:Int) - 1=(l.length:Nat) by omega];rw[Int.tmod_eq_emod_of_nonneg (by omega)];simp;omega
 have Ey:(((n:Int) - 1) % 3 !=0)=true:=by rw[show(n:Int) - 1=(l.length:Nat) by omega];simp;omega
 clear o P hT hc h3 hn;go_enter Tryz.func45,Tryz.ntmps45
 go_wp2;go_ret
 exact iS.bad HR (gD _ _)
theorem Oh (w:World)(Bd p gm cm:Nat)(gl:Gl)(s:PS)(rv:Rows)(K:Nat)(A:Option Addr)(n c:Nat)(ws:List P3)(t:B)(l:List B)(F:ie w Bd p gm cm gl s rv K)(V:lR w A n ws)(W:af ws=t::l)(hK:K<=1000000000)(hc:n<=c){bf:List hU}{g:hU}(y:s.f.ga=bf++[g]){G n0 c9 q:Nat}(X:(rv 0).v=.slice (G,0) n0 c9)(hq:q=bf.length*9):
  Calls Tryz.prog 51 #[.pointer (p,0),A n c,.pointer (G,q)] w (iS w Bd p gm cm gl (K+n) (kG s l)):=by
 have hn:n=l.length+1:=by rw[<-V.length];exact dR W
 have hB:=F.size;have bg:=V.i;by_cases h:l=[]
 .have HR:Hid (kG s l=.error 22):=by
   show _=_;unfold kG;rw[if_neg (AO y),if_pos (.inl h)]
  have aE:l.length=0:=by rw[h];rfl
  have H:((n:Int)<2):=by omega
  clear F V W hn y X hq h aE;go_enter Tryz.func51,Tryz.ntmps51
  go_wp2;go_ret
  exact iS.bad HR.out (gD _ _)
 have bh:1<=l.length:=by
  cases l with
  |nil=>exact absurd rfl h
  |cons a b=>simp
 have bj:2<=n:=by omega
 have bk:¬((n:Int)<2):=by omega
 obtain⟨A',bb,I,j⟩:=V.sub hc 1 1 rfl (by omega);have qN:=J (Q8 w A' (n - 1) (c - 1) (ws.drop 1) I j (by omega));have z:(ws.drop 1).all (λx=>og x.2.2)=l.all og:=by rw[Ea,kX W]
 rw[z]at qN;cases k:l.all og with
 |false=>
  rw[k]at qN;have HR:Hid (kG s l=.error 22):=by show _=_;unfold kG;rw[if_neg (AO y),if_pos (.inr k)]
  clear k z F V W I j hn y X hq h;go_enter Tryz.func51,Tryz.ntmps51
  go_wp2_with (go_at_call 98;refine qN.out.mono ?_;rintro e L ⟨rfl,o⟩)
  go_ret
  exact iS.bad HR.out (o.mono hB)
 |true=>
  rw[k]at qN;have HP:=J F;obtain⟨C,aa,ci,gv,-,-,aL,lH,Ez,xK⟩:=F.sr y;obtain⟨rfl,aM,rfl⟩:C=G/\bf.length+1=n0/\aa=c9:=by rw[gv]at X;simpa using X
  have N:C<w.heap.size:=aL;obtain⟨A0,c0,hv⟩:=F.slice (i:=8) (by decide);have kp:w.cell? (C,q+3)=some (rv 8).v:=by rw[hq];exact lH 3 (by decide)
  rw[hv]at kp;have bc:=F.i 8 (by decide);have HR:Hid (kG s l=fin (l.foldl AB 0) {s with f:= {s.f with ga:=bf++[{g with gk:=g.gk++l.map uo,gO:=g.gO++[((g.gk.length+l.length:Nat):Int) - 1]}]}}):=by show _=_;unfold kG;rw[if_neg (AO y),if_neg (by rw[k];simp[h]),yc s _ y]
  have bl:g.gk.length+l.length<=K+n:=by
   have h5:(rv 8).n=g.gk.length:=by
    rcases F.D.p.2 with⟨e,_⟩|⟨O,g',ci,H,-,-,-,h5,-⟩
    .rw[y]at e;simp at e
    rw[y]at H;obtain⟨rfl,H⟩:=List.append_inj' H rfl;obtain rfl:g=g':=by simpa using H
    exact h5.1
   have:=F.i 8 (by decide);omega
  have aQ:Hid ((g.gk++l.map uo).length=g.gk.length+l.length):=by show _=_;simp
  have Hs:=J y;have Hq:=J hq;have H0:=J X;have yj:=J xK;have ab:=J (λL rb (hr:i8 L rb p 0) (hb:Below w w L) (Y:w.heap.size<=rb)=>Cr L rb p 0 A' (n - 1) (c - 1) (ws.drop 1) hr (I.below hb) j (by omega));rw[kX W]at ab;have ac:l.length=n - 1:=by omega
  have aR:=J (λ(w:World) S=>Ts w S (l.map uo) (N3 l));have a0:Hid (n - 1=(l.map uo).length):=by show _=_;simp[ac]
  have ad:=J (M7 (l.map uo));have bm:n - 1<=n:=by omega
  clear F V W I j ac hn z k h y X hq gv lH Ez xK aM;go_enter Tryz.func51,Tryz.ntmps51
  go_wp2_with (go_at_call 98;refine qN.out.mono ?_;rintro e w0 ⟨rfl,aN⟩)
  go_wp2_with fail
  refine(iE w0 p).mono ?_;rintro e L ⟨rfl,P,Fj⟩;have o:Below w w L:=aN.trans (Fj.mono aN.size);have k1:L.cell? (C,q+3)=some (A0 (rv 8).n c0):=((aj o).1 _ _ N).trans kp;have bo:L.drew.cell? (C,q+3)=some (A0 (rv 8).n c0):=k1;have ak:=aN.size;have mg:=J P;have al:=J o;clear P o aN Fj;go_wp2_with fail
  go_region_with (go_at_call 99;refine(ab.out _ _ (by exact mg.out) (by exact al.out.drew) ak).mono ?_;rintro e w2 ⟨v,rfl,A4,c4,rfl,bW,ao,ap⟩;have r:=bu al.out.drew ap ak;have Z:=HP.out.below r;have D:=Z.live.own 8 (by decide);rw[hv]at D;have FP:=(jX bW).rd;obtain⟨A5,c5,w9,bd,aW,ay,bF⟩:=JX wT 44 w2 Bd _ c0 A0 _ _ A4 (n - 1) c4 _ D FP ad.out (by omega) Z.size;have k2:w2.cell? (C,q+3)=some (A0 (rv 8).n c0):=((aj r).1 _ _ N).trans kp;rw[<-hv]at ay bF;obtain⟨Np,cZ,vP⟩:∃d,Bk w9 C 52 d/\d[q+3]?=some (rv 8).v:=(by obtain⟨d,Y⟩:=yj.out;exact⟨d,Bk.grown (Y.keep (r.block C N)) ay (Z.live.own 8 (by decide)) (by decide),by rw[<-Y.cell,kp,hv]⟩);have kM:=Bk.grown ao ay (Z.live.own 8 (by decide)) (by decide);have x9:w9.cell? (C,q+3)=some (rv 8).v:=(cZ.cell _).trans vP;have y9:=cZ.frozen (q+3);have a1:=J kM;have bZ:=J (ie.arw (m:=n - 1) (K':=K+(n - 1)) Z Hs.out H0.out ay aW bF a0.out (aR.out _ _) (by omega));rw[<-Hq.out]at bZ;have jd:=J (r.mono hB);have HQ:=J (KQ.below (cm:=cm) r);clear D aW ay bF cZ kM Z r bW ao ap FP)
  all_goals
   obtain⟨E,u,Ei,fQ,aq⟩:=bZ.out;obtain⟨Q,oz⟩:∃Q,w9.setCell (C,q+3) (A5 ((rv 8).n+(n - 1)) c5)=Q:=⟨_,rfl⟩
   rw[oz]at u Ei fQ ⊢;have qP:i8 Q w0.heap.size p (l.foldl AB 0):=by rw[<-oz];exact Bk.I a1.out (by simp;omega) _
   have YA:=aq.trans H0.out;obtain⟨G2,c2,br,ar,-,-,a2,Si,a3,av⟩:=u.sr (init:=bf) rfl;obtain⟨rfl,-,rfl⟩:G2=C/\bf.length+1=n0/\c2=aa:=by rw[ar]at YA;simpa using YA
   obtain⟨A8,c8,aw⟩:=u.slice (i:=8) (by decide);obtain⟨A9,a4,Pm⟩:=u.slice (i:=9) (by decide);have q8:Q.cell? (G2,q+3)=some (E 8).v:=by rw[Hq.out];exact Si 3 (by decide)
   have q9:Q.cell? (G2,q+3+1)=some (E 9).v:=by rw[Hq.out];exact Si 4 (by decide)
   rw[aw]at q8;rw[Pm]at q9;have Pi:(E 8).n=g.gk.length+l.length:=by
    rcases u.D.p.2 with⟨e,_⟩|⟨O,g',ci,H,-,-,-,h5,-⟩
    .simp at e
    obtain⟨rfl,H⟩:=List.append_inj' H rfl;obtain rfl:_=g':=by simpa using H
    exact h5.1.trans aQ.out
   have Yv:=u.live.own 9 (by decide);have bv:=u.i 9 (by decide);rw[Pm]at Yv;have hI:gN (((E 8).n:Int) - 1):=⟨by omega,by omega⟩
   obtain⟨A6,c6,T,a5,SY,uU,U⟩:=jh iw 22 Q Bd _ a4 A9 _ #[.int .i64 (((E 8).n:Int) - 1)] rfl Yv (by simp[Value.oneCell']) (by omega) u.size;rw[<-Pm]at uU U;obtain⟨bw,NQ,M⟩:∃d,Bk T G2 52 d/\d[q+3+1]?=some (E 9).v:=by obtain⟨d,Y⟩:=av;exact⟨d,Bk.grown Y uU (u.live.own 9 (by decide)) (by decide),by rw[<-Y.cell,q9,Pm]⟩
   have aD:=Bk.grown qP uU (u.live.own 9 (by decide)) (by decide);have bx:T.cell? (G2,q+3+1)=some (E 9).v:=(NQ.cell _).trans M;have bz:=NQ.frozen (q+3+1);have bA:T.cell? (w0,1)=some (.int .i64 (l.foldl AB 0)):=aD.cell 1;have KR:=ie.arq (m:=1) (K':=K+n) u (init:=bf) rfl YA uU SY U (ys:=[((E 8).n:Int) - 1]) rfl (Fl.one (R:=gS) ⟨rfl,hI⟩ rfl) (by omega);rw[<-Hq.out]at KR;have KR:=J KR;have a6:1<=(E 8).n:=by omega
   have a7:(E 8).n<=100000000000:=by omega
   have a8:=J Pi;have a9:=J (jd.out.trans fQ);have ba:=J (HQ.out.trans Ei);clear aq YA ar Si a3 av Yv SY uU U NQ M aD qP u fQ Ei Pi oz bZ aw Pm;generalize (E 8).n=m8 at*
   go_wp2_with fail
   go_region
   all_goals
    go_wp2;go_ret
    obtain⟨bB,g1,g2,g3,-⟩:=KR.out;refine iS.fin ?_ (a9.out.trans g3) (ba.out.trans g2) g1;rw[HR.out,a8.out]
end
section
open Go.Shelf Go.Sort
attribute [local go_sem] Oper.semAt_some
def uv (x:hU):B:=aJ fB (x.gn::ag x.gL::if x.i6 then [jo]else [])
def vQ (x:hU):B:=(fV x.gk 0 x.gO).flatMap (λc=>aJ ik (c.map jZ))
def ry (a:List hU)(p:Part):B:=aJ sJ [dK a p.z,ag p.x,ag p.y]
def uD (a:ml):B:=aJ lY [pick anchorNames a.gd,ag a.ia,ag a.x,ag a.y]
def Dh (d:Delta):B:=aJ pO [ag d.region,ag d.ii,ag d.x,ag d.y]
def Ib (l:List Ins):B:=if l.isEmpty then []else aJ qG (l.map dO)
theorem nU (f:b->B)(a:∀x,1<=(f x).length)(l:List b):l.length<=(l.flatMap f).length:=by
 induction l with
 |nil=>simp
 |cons x l α=>have:=a x;rw[nW,la,aV];omega
theorem kE (f:B)(a:List B):1<=(aJ f a).length:=by have:=mO f a;omega
theorem Fb (a:List hU)(x:hU):eF a x=uv x++vQ x++x.gi.flatMap (ry a)++x.gh.flatMap uD++x.gx.flatMap Dh++Ib x.gR:=rfl
theorem ZB (Bd g:Nat)(T:Nat->Value)(q:B)(gs:List hU)(A3 A4 A5 A6 A7 A8:Option Addr)(c3 c4 c5 c6 c7 c8:Nat)(x:hU)(hT:iN u)(hG:nG<=Bd)(hP:PN u g gs)(bs:gs.length<=1000000000000)(hp:Pr u Bd g T q)(O:Bd<=u.heap.size)(r1:gN x.gL)(h3:Sl lr 3 u (FT u) A3 x.gk)(h4:Sl gS 1 u (FT u) A4 x.gO)(h5:Sl lS 3 u (FT u) A5 x.gi)(h6:Sl mc 4 u (FT u) A6 x.gh)(h7:Sl md 4 u (FT u) A7 x.gx)(h8:Sl ky 2 u (FT u) A8 x.gR)(bZ:x.gk.length<=1000000000)(b0:x.gO.length<=1000000000)(b1:x.gR.length<=1000000000)(ao:q.length+(eF gs x).length<=10000000000):
  Calls Tryz.prog 24 #[.pointer (some ⟨g,0,none⟩),.agg #[.string ⟨x.gn.toArray⟩,.int .i64 x.gL,.bool x.i6,.slice A3 x.gk.length c3,.slice A4 x.gO.length c4,.slice A5 x.gi.length c5,.slice A6 x.gh.length c6,.slice A7 x.gx.length c7,.slice A8 x.gR.length c8]] u
   λe C=>e=.returned (.tuple #[])/\Pr C Bd g T (q++eF gs x)/\KP u C/\Below Bd u C:=by
 rw[Fb]at ao ⊢;have b2:q.length+(uv x).length+(vQ x).length+(x.gi.flatMap (ry gs)).length+(x.gh.flatMap uD).length+(x.gx.flatMap Dh).length+(Ib x.gR).length<=10000000000:=by simp only[la]at ao;omega
 clear ao;have aE:Hid (aJ fB (x.gn::ag x.gL::if x.i6 then [jo]else [])=uv x):=rfl;have a8:Hid (vQ x=(fV x.gk 0 x.gO).flatMap (λc=>aJ ik (c.map jZ))):=rfl;generalize uv x=U at*
 generalize vQ x=T2 at*
 have ap:q.length+U.length<=10000000000:=by omega
 have bv:x.gi.length<=10000000000:=by have:=nU (ry gs) (λ_=>kE _ _) x.gi;omega
 have bw:x.gh.length<=10000000000:=by have:=nU uD (λ_=>kE _ _) x.gh;omega
 have bx:x.gx.length<=10000000000:=by have:=nU Dh (λ_=>kE _ _) x.gx;omega
 refine(callsIn_wide (n:=20)).1 ?_;refine callsIn_of_wp_marks Tryz.func24 rfl trivial ?_ rfl;refine wpIn_wide.2 ?_;simp only[Tryz.ntmps24,List.size_toArray,aV,ln,Nat.reduceAdd,Nat.reduceSub,Array.replicate_succ,Array.replicate_zero,List.push_toArray,List.append_toArray,pG,nw]
 go_upto_region 1 with fail
 obtain⟨W0,aq⟩:∃W0,(u.alloc (.cells #[.pointer (some ⟨g,0,none⟩)] 102)).alloc (.cells #[.string ⟨x.gn.toArray⟩,.int .i64 x.gL,.bool x.i6,.slice A3 x.gk.length c3,.slice A4 x.gO.length c4,.slice A5 x.gi.length c5,.slice A6 x.gh.length c6,.slice A7 x.gx.length c7,.slice A8 x.gR.length c8] 52)=W0:=⟨_,rfl⟩
 rw[aq];have P:Below u.heap.size u W0:=by rw[<-aq];exact((gD _ _).alloc (ae _) _).alloc (by simp) _
 have B0:Bk W0 u.heap.size 102 #[.pointer (some ⟨g,0,none⟩)]:=by rw[<-aq];exact(pL _ _ _).alloc _
 have B1:Bk W0 (u.heap.size+1) 52 #[.string ⟨x.gn.toArray⟩,.int .i64 x.gL,.bool x.i6,.slice A3 x.gk.length c3,.slice A4 x.gO.length c4,.slice A5 x.gi.length c5,.slice A6 x.gh.length c6,.slice A7 x.gx.length c7,.slice A8 x.gR.length c8]:=by
  rw[<-aq];have:=Bk.new (u.alloc (.cells #[.pointer (some ⟨g,0,none⟩)] 102)) 52 #[.string ⟨x.gn.toArray⟩,.int .i64 x.gL,.bool x.i6,.slice A3 x.gk.length c3,.slice A4 x.gO.length c4,.slice A5 x.gi.length c5,.slice A6 x.gh.length c6,.slice A7 x.gx.length c7,.slice A8 x.gR.length c8]
  rwa [World.size_alloc]at this
 have z0:=P.size;clear aq;have ar:=hp.below P;have a9:=hT.all P;have q0:W0.cell? ⟨u.heap.size,0,none⟩=some (.pointer (some ⟨g,0,none⟩)):=B0.cell 0;have m0:W0.cell? ⟨u.heap.size+1,0,none⟩=some (.string ⟨x.gn.toArray⟩):=B1.cell 0;have m1:W0.cell? ⟨u.heap.size+1,1,none⟩=some (.int .i64 x.gL):=B1.cell 1;have m2:W0.cell? ⟨u.heap.size+1,2,none⟩=some (.bool x.i6):=B1.cell 2;have b3:¬(u.heap.size+1=u.heap.size):=by omega
 go_upto_if 13 with fail
 go_cut [1,3,13]from 14 to 29 (λ_ s3 _ wx=>s3=.pointer (some ⟨u.heap.size+1,0,none⟩)/\vM u W0 Bd g T (q++U) wx)
 case first=>
  have n1:=J (λu hT=>bi u x.gL hT r1);generalize ag x.gL=ta at*
  cases ba:x.i6 with
  |true=>
   rw[ba]at m2 aE;have av:Hid (aJ fB [x.gn,ta,jo]=U):=J (by have:=aE.out;simpa using this);have aR:q.length+(aJ fB [x.gn,ta,jo]).length<=10000000000:=by rw[av.out];exact ap
   go_wp2_with fail
   go_region_held3 (λC=>C.cell? ⟨u.heap.size,0,none⟩=some (.pointer (some ⟨g,0,none⟩))/\C.cell? ⟨u.heap.size+1,0,none⟩=some (.string ⟨x.gn.toArray⟩)/\C.cell? ⟨u.heap.size+1,1,none⟩=some (.int .i64 x.gL))
    (first
     |exact⟨(Q.bk (B0.below a) (by decide) (by decide)).cell 0,(Q.bk (B1.below a) (by decide) (by decide)).cell 0,(Q.bk (B1.below a) (by decide) (by decide)).cell 1⟩
     |exact⟨dE _ (ah a q0),dE _ (ah a m0),dE _ (ah a m1)⟩
     |exact⟨ah a q0,ah a m0,ah a m1⟩
     |go_keep)
    (first
     |(go_at_call 20;refine(n1 _ a9.drew).mono ?_;rintro e w1 ⟨rfl,I⟩;have a:=lC I)
     |(go_at_call 19;refine(nC w1 w1.heap.size 3 rfl Bd g T q fB [x.gn,ta,jo] rfl (ar.below a) aR).mono ?_;rintro e w2 ⟨rfl,aw,Q,R⟩))
   go_wp2
   go_meet
   rw[av.out]at aw;exact⟨rfl,aw,(KP.below a).trans Q,(P.mono O).trans ((a.mono (by omega)).trans R)⟩
  |false=>
   rw[ba]at m2 aE;have av:Hid (aJ fB [x.gn,ta]=U):=J (by have:=aE.out;simpa using this);have aR:q.length+(aJ fB [x.gn,ta]).length<=10000000000:=by rw[av.out];exact ap
   go_wp2_with fail
   go_region_held3 (λC=>C.cell? ⟨u.heap.size,0,none⟩=some (.pointer (some ⟨g,0,none⟩))/\C.cell? ⟨u.heap.size+1,0,none⟩=some (.string ⟨x.gn.toArray⟩)/\C.cell? ⟨u.heap.size+1,1,none⟩=some (.int .i64 x.gL))
    (first
     |exact⟨(Q.bk (B0.below a) (by decide) (by decide)).cell 0,(Q.bk (B1.below a) (by decide) (by decide)).cell 0,(Q.bk (B1.below a) (by decide) (by decide)).cell 1⟩
     |exact⟨dE _ (ah a q0),dE _ (ah a m0),dE _ (ah a m1)⟩
     |exact⟨ah a q0,ah a m0,ah a m1⟩
     |go_keep)
    (first
     |(go_at_call 20;refine(n1 _ a9.drew).mono ?_;rintro e w1 ⟨rfl,I⟩;have a:=lC I)
     |(go_at_call 19;refine(nC w1 w1.heap.size 2 rfl Bd g T q fB [x.gn,ta] rfl (ar.below a) aR).mono ?_;rintro e w2 ⟨rfl,aw,Q,R⟩))
   go_wp2
   go_meet
   rw[av.out]at aw;exact⟨rfl,aw,(KP.below a).trans Q,(P.mono O).trans ((a.mono (by omega)).trans R)⟩
 case rest=>
  obtain⟨rfl,s⟩:=hcut;have aW:=s.2.1;have m3:wc.cell? ⟨u.heap.size+1,3,none⟩=some (.slice A3 x.gk.length c3):=(aW.bk B1 (by decide) (by decide)).cell 3;have m4:wc.cell? ⟨u.heap.size+1,4,none⟩=some (.slice A4 x.gO.length c4):=(aW.bk B1 (by decide) (by decide)).cell 4;have bb:KP u wc:=(KP.below P).trans aW;have bc:=(bb.sl lr.ok h3).ase;have bd:=(bb.sl gS.ok h4).Z2;have L:=J s;clear q0 m0 m1 m2 s;go_wp2_with (go_at_call 64;refine(Qg wc wc.heap.size A3 A4 x.gk.length c3 x.gO.length c4 (jm x.gk) (Rj _) x.gO bc bd (ae _) (by omega) (by omega)).mono ?_;rintro e w1 ⟨v,w,pb,eb,rfl,bf,a0,bz,bA,E,F,I⟩)
  obtain⟨Av,cv,rfl,bB⟩:=Rd.U bf;obtain⟨Eu,cu,rfl,-⟩:=Rd.U a0;have bE:=jX a0;have Dx:vM u W0 Bd g T (q++U) w1:=⟨L.1.below I,L.2.1.trans (KP.below I),L.2.2.trans (I.mono (nt (nt O z0) L.2.1.size))⟩
  have aQ:=Dx.2.1.size;have bF:=J (V2 h3);have bH:Hid (∀N y,N++[y]<+:Lp y.2.2.2 (qV x.gk.length 0 0 x.gO)->(N.flatMap (yF x.gk)).length+(yF x.gk y).length<=T2.length):=λN y hy=>by
   have h1:=LD x.gk x.gO y.2.2.2;rw[<-a8.out]at h1;obtain⟨r,hr⟩:=hy;rw[<-hr]at h1;have h2:=congrArg List.length h1;simp only[rj,la,nW,tx,pp]at h2;omega
  clear bf a0 m3 m4 bc bd;refine(wpIn_wide (n:=20)).1 ?_;refine Bj (d:=10) (by decide) (gf:=112) (lb:= #[.pointer (some ⟨pb,0,none⟩),.pointer (some ⟨eb,0,none⟩)]) rfl (enters_of Tryz.func112 (by kernel_rfl) rfl) (λ_=>rfl)
   (XT w1 x.gk.length x.gO.length pb eb cv cu Av Eu (jm x.gk) (Rj _) x.gO bz bB bA bE (by omega) (by omega))
   (λh k=>h.trans k) (λW l o o' h hc=>KC.put W l o o' h hc) (VC.putObj _ _ _)
   (λN W=>vM u W0 Bd g T (q++U++N.flatMap (yF x.gk)) W) (Lz (λN=>q++U++N.flatMap (yF x.gk)) aQ (nt O z0)) (by simpa using Dx) ?a1 ?assign ?body ?done
  case assign=>
   intro l2 y A K hK;simp only[X9]
   gi_wp2
   exact hK
  case body=>
   rintro l2 N ⟨a2,f,e,gg⟩ A FC ⟨bh,bj,NE,a3⟩;dsimp only at bj NE a3 ⊢;have b4:=bH N (a2,f,e,gg) bh;have b5:A.cell? ⟨u.heap.size,0,none⟩=some (.pointer (some ⟨g,0,none⟩)):=(FC.2.1.bk B0 (by decide) (by decide)).cell 0;have bl:=M8 a3 rfl bF f e bj NE;have bm:iN A:=hT.below FC.2.2 hG;have a4:=XU A Bd g T (q++U++N.flatMap (yF x.gk)) (some ⟨gg,f*3,none⟩) (e+1 - f) (yu x.gk f e) bm FC.1 (nt (nt O z0) FC.2.1.size) bl (by rw[Ru _ _ _ NE];omega) (by
    have:yF x.gk (a2,f,e,gg)=aJ ik ((yu x.gk f e).map jZ):=rfl;rw[<-this];simp only[la];omega)
   rw[Ru _ _ _ NE]at a4;have bK:=J a4;have bn:=J FC;clear a4 bl a3 bh FC bm
   gi_wp2_with fail
   refine⟨trivial,rfl,?_⟩;refine(CallsIn.inRound l2 (callsIn_wide.2 bK)).mono ?_;rintro e5 W3 ⟨rfl,bo,aL,V⟩;have bp:Hid (vM u W0 Bd g T (q++U++(N++[(a2,f,e,gg)]).flatMap (yF x.gk)) W3/\KC A W3/\KeepsOthers A W3):=by refine⟨⟨?_,bn.2.1.trans aL,bn.2.2.trans V⟩,aL.kc,aL.sL⟩;rw[rj,<-mL];simpa [yF]using bo
   clear bo aL V
   gi_wp2
   exact bp
  case done=>
   rintro D ys W1 hD ⟨g2,hS⟩ Dx hK;have Dx:vM u W0 Bd g T (q++U++T2) W1:=by rw[hS,LD,<-a8.out]at Dx;exact Dx
   clear hS;have uV:=Dx.2.1;have NK:KP u W1:=(KP.below P).trans uV;have aM:=uV.bk B1 (by decide) (by decide);have aN:=uV.bk B0 (by decide) (by decide);have bq:u.heap.size<=w1.heap.size:=nt z0 aQ;have bW:Bd<=W1.heap.size:=nt (nt O z0) uV.size;have b6:W1.cell? ⟨u.heap.size+1,5,none⟩=some (.slice A5 x.gi.length c5):=(uV.bk B1 (by decide) (by decide)).cell 5;go_wp2_with fail
   go_loopw [41] (λi wr=>∃k:Nat,k<=x.gi.length/\i=.int .i64 k/\vM u W1 Bd g T (q++U++T2++(x.gi.take k).flatMap (ry gs)) wr) (λi _=>x.gi.length - (intOf i).toNat)
   case atStart=>exact⟨0,nz _,rfl,⟨by simpa using Dx.1,KP.refl _,Dx.2.2⟩⟩
   case round=>
    obtain⟨k,hk,rfl,s⟩:=hrel;by_cases X:k<x.gi.length
    .have Y:KP u wr:=NK.trans s.2.1;have br:k<=10000000000:=nt (pl X) bv;obtain⟨b,o,y,rfl,-,hy,q0,q1,q2,r0,r1,r2⟩:=(Y.sl lS.ok h5).part X;have ay:=J (cO (ry gs) x.gi k y hy);have Z:=bU (ry gs) x.gi k y hy;obtain⟨G,E,F⟩:=y;dsimp only at q0 q1 q2 r0 r1 r2;have aa:(q++U++T2++(x.gi.take k).flatMap (ry gs)).length+(aJ sJ [dK gs G,ag E,ag F]).length<=10000000000:=by have e:(ry gs) ⟨G,E,F⟩=aJ sJ [dK gs G,ag E,ag F]:=rfl;rw[e]at Z;simp only[la];omega
     have OJ:=s.2.1.bk aN (by decide) (by decide);have ab:iN wr:=hT.below s.2.2 hG;have uP:PN wr g gs:=(hP.below P).kp ar s.1 (uV.trans s.2.1);have jc:=nt (nt O z0) (uV.trans s.2.1).size;have L:=J s;have ac:=s.1;clear hy Z s Y;go_wp2_with fail
     obtain⟨A,H⟩:∃A,wr.alloc (.cells #[.int .i64 G,.int .i64 E,.int .i64 F] 54)=A:=⟨_,rfl⟩
     rw[H];have t:Below wr.heap.size wr A:=by rw[<-H];exact(gD _ _).alloc (ae _) _
     have M:Bk A wr.heap.size 54 #[.int .i64 G,.int .i64 E,.int .i64 F]:=by rw[<-H];exact Bk.new _ _ _
     clear H q0 q1 q2;have BP:=OJ.below t;have bg:=ab.all t;have a5:PN A.drew g gs:=(uP.below t).below (gD _ _).drew;have zD:=ac.below t;have p0:A.cell? ⟨u.heap.size,0,none⟩=some (.pointer (some ⟨g,0,none⟩)):=BP.cell 0;have v0:A.cell? ⟨wr.heap.size,0,none⟩=some (.int .i64 G):=M.cell 0;have v1:A.cell? ⟨wr.heap.size,1,none⟩=some (.int .i64 E):=M.cell 1;have v2:A.cell? ⟨wr.heap.size,2,none⟩=some (.int .i64 F):=M.cell 2
     go_region_held3 (λC=>C.cell? ⟨u.heap.size,0,none⟩=some (.pointer (some ⟨g,0,none⟩))/\C.cell? ⟨wr.heap.size,0,none⟩=some (.int .i64 G)/\C.cell? ⟨wr.heap.size,1,none⟩=some (.int .i64 E)/\C.cell? ⟨wr.heap.size,2,none⟩=some (.int .i64 F))
      (first
       |exact⟨(z.bk (BP.below m) (by decide) (by decide)).cell 0,(z.bk (M.below m) (by decide) (by decide)).cell 0,(z.bk (M.below m) (by decide) (by decide)).cell 1,(z.bk (M.below m) (by decide) (by decide)).cell 2⟩
       |exact⟨dE _ (ah m p0),dE _ (ah m v0),dE _ (ah m v1),dE _ (ah m v2)⟩
       |exact⟨ah m p0,ah m v0,ah m v1,ah m v2⟩
       |exact⟨ah p p0,ah p v0,ah p v1,ah p v2⟩
       |exact⟨ah a p0,ah a v0,ah a v1,ah a v2⟩
       |go_keep)
      (first
       |(go_at_call 25;refine(DJ _ g gs G bg.drew r0 a5 bs).mono ?_;rintro e w1 ⟨rfl,I⟩;have a:=lC I)
       |(go_at_call 20;refine(bi _ E (bg.all a) r1).mono ?_;rintro e w2 ⟨rfl,R⟩;have p:=bt a R)
       |(go_at_call 20;refine(bi _ F (bg.all p) r2).mono ?_;rintro e w3 ⟨rfl,V⟩;have m:=bt p V)
       |(go_at_call 19;refine(nC w3 w3.heap.size 3 rfl Bd g T _ sJ [dK gs G,ag E,ag F] rfl (zD.below m) aa).mono ?_;rintro e wz ⟨rfl,ad,z,ak⟩))
     go_wp2;go_roundw
     case rel=>exact⟨k+1,by omega,by simp,by rw[ay.out,<-mL];exact ad,L.2.1.trans ((KP.below (bt t m)).trans z),L.2.2.trans (((bt t m).mono jc).trans ak)⟩
     case measure=>simp[intOf];omega
    obtain rfl:k=x.gi.length:=by omega
    rw[lf]at s;have L:=J s;have b7:W1.cell? ⟨u.heap.size+1,6,none⟩=some (.slice A6 x.gh.length c6):=(uV.bk B1 (by decide) (by decide)).cell 6;have b8:wr.cell? ⟨u.heap.size+1,6,none⟩=some (.slice A6 x.gh.length c6):=(s.2.1.bk aM (by decide) (by decide)).cell 6;go_wp2_with fail
    go_loopw [62] (λi wr=>∃k:Nat,k<=x.gh.length/\i=.int .i64 k/\vM u W1 Bd g T (q++U++T2++x.gi.flatMap (ry gs)++(x.gh.take k).flatMap uD) wr) (λi _=>x.gh.length - (intOf i).toNat)
    case atStart=>exact⟨0,nz _,rfl,by simpa using L.out⟩
    case round=>
     obtain⟨k,hk,rfl,s⟩:=hrel;by_cases X:k<x.gh.length
     .have Y:KP u wr:=NK.trans s.2.1;have br:k<=10000000000:=nt (pl X) bw;obtain⟨b,o,y,rfl,-,hy,q0,q1,q2,q3,r0,r1,r2,r3⟩:=(Y.sl mc.ok h6).oi X;have ay:=J (cO uD x.gh k y hy);have Z:=bU uD x.gh k y hy;obtain⟨G,E,F,S⟩:=y;dsimp only at q0 q1 q2 q3 r0 r1 r2 r3;have aa:(q++U++T2++x.gi.flatMap (ry gs)++(x.gh.take k).flatMap uD).length+(aJ lY [pick anchorNames G,ag E,ag F,ag S]).length<=10000000000:=by have e:uD ⟨G,E,F,S⟩=aJ lY [pick anchorNames G,ag E,ag F,ag S]:=rfl;rw[e]at Z;simp only[la];omega
      have OJ:=s.2.1.bk aN (by decide) (by decide);have ab:iN wr:=hT.below s.2.2 hG;have uP:PN wr g gs:=(hP.below P).kp ar s.1 (uV.trans s.2.1);have jc:=nt (nt O z0) (uV.trans s.2.1).size;have L:=J s;have ac:=s.1;clear hy Z s Y;go_wp2_with fail
      obtain⟨A,H⟩:∃A,wr.alloc (.cells #[.int .i64 G,.int .i64 E,.int .i64 F,.int .i64 S] 56)=A:=⟨_,rfl⟩
      rw[H];have t:Below wr.heap.size wr A:=by rw[<-H];exact(gD _ _).alloc (ae _) _
      have M:Bk A wr.heap.size 56 #[.int .i64 G,.int .i64 E,.int .i64 F,.int .i64 S]:=by rw[<-H];exact Bk.new _ _ _
      clear H q0 q1 q2 q3;have BP:=OJ.below t;have bg:=ab.all t;have zD:=ac.below t;have p0:A.cell? ⟨u.heap.size,0,none⟩=some (.pointer (some ⟨g,0,none⟩)):=BP.cell 0;have v0:A.cell? ⟨wr.heap.size,0,none⟩=some (.int .i64 G):=M.cell 0;have v1:A.cell? ⟨wr.heap.size,1,none⟩=some (.int .i64 E):=M.cell 1;have v2:A.cell? ⟨wr.heap.size,2,none⟩=some (.int .i64 F):=M.cell 2;have v3:A.cell? ⟨wr.heap.size,3,none⟩=some (.int .i64 S):=M.cell 3
      go_region_held3 (λC=>C.cell? ⟨u.heap.size,0,none⟩=some (.pointer (some ⟨g,0,none⟩))/\C.cell? ⟨wr.heap.size,0,none⟩=some (.int .i64 G)/\C.cell? ⟨wr.heap.size,1,none⟩=some (.int .i64 E)/\C.cell? ⟨wr.heap.size,2,none⟩=some (.int .i64 F)/\C.cell? ⟨wr.heap.size,3,none⟩=some (.int .i64 S))
       (first
        |exact⟨(z.bk (BP.below j) (by decide) (by decide)).cell 0,(z.bk (M.below j) (by decide) (by decide)).cell 0,(z.bk (M.below j) (by decide) (by decide)).cell 1,(z.bk (M.below j) (by decide) (by decide)).cell 2,(z.bk (M.below j) (by decide) (by decide)).cell 3⟩
        |exact⟨dE _ (ah j p0),dE _ (ah j v0),dE _ (ah j v1),dE _ (ah j v2),dE _ (ah j v3)⟩
        |exact⟨ah j p0,ah j v0,ah j v1,ah j v2,ah j v3⟩
        |exact⟨ah m p0,ah m v0,ah m v1,ah m v2,ah m v3⟩
        |exact⟨ah p p0,ah p v0,ah p v1,ah p v2,ah p v3⟩
        |go_keep)
       (first
        |(go_at_call 66;refine(Qb _ G bg.drew).mono ?_;rintro e C ⟨rfl,rfl⟩)
        |(go_at_call 20;refine(bi _ E bg.drew r1).mono ?_;rintro e w2 ⟨rfl,R⟩;have p:=lC R)
        |(go_at_call 20;refine(bi _ F (bg.all p) r2).mono ?_;rintro e w3 ⟨rfl,V⟩;have m:=bt p V)
        |(go_at_call 20;refine(bi _ S (bg.all m) r3).mono ?_;rintro e w4 ⟨rfl,a6⟩;have j:=bt m a6)
        |(go_at_call 19;refine(nC w4 w4.heap.size 4 rfl Bd g T _ lY [pick anchorNames G,ag E,ag F,ag S] rfl (zD.below j) aa).mono ?_;rintro e wz ⟨rfl,ad,z,ak⟩))
      go_wp2;go_roundw
      case rel=>exact⟨k+1,by omega,by simp,by rw[ay.out,<-mL];exact ad,L.2.1.trans ((KP.below (bt t j)).trans z),L.2.2.trans (((bt t j).mono jc).trans ak)⟩
      case measure=>simp[intOf];omega
     obtain rfl:k=x.gh.length:=by omega
     rw[lf]at s;have L:=J s;have b9:W1.cell? ⟨u.heap.size+1,7,none⟩=some (.slice A7 x.gx.length c7):=(uV.bk B1 (by decide) (by decide)).cell 7;have ca:wr.cell? ⟨u.heap.size+1,7,none⟩=some (.slice A7 x.gx.length c7):=(s.2.1.bk aM (by decide) (by decide)).cell 7;go_wp2_with fail
     go_loopw [85] (λi wr=>∃k:Nat,k<=x.gx.length/\i=.int .i64 k/\vM u W1 Bd g T (q++U++T2++x.gi.flatMap (ry gs)++x.gh.flatMap uD++(x.gx.take k).flatMap Dh) wr) (λi _=>x.gx.length - (intOf i).toNat)
     case atStart=>exact⟨0,nz _,rfl,by simpa using L.out⟩
     case round=>
      obtain⟨k,hk,rfl,s⟩:=hrel;by_cases X:k<x.gx.length
      .have Y:KP u wr:=NK.trans s.2.1;have br:k<=10000000000:=nt (pl X) bx;obtain⟨b,o,y,rfl,-,hy,q0,q1,q2,q3,r0,r1,r2,r3⟩:=(Y.sl md.ok h7).delta X;have ay:=J (cO Dh x.gx k y hy);have Z:=bU Dh x.gx k y hy;obtain⟨G,E,F,S⟩:=y;dsimp only at q0 q1 q2 q3 r0 r1 r2 r3;have aa:(q++U++T2++x.gi.flatMap (ry gs)++x.gh.flatMap uD++(x.gx.take k).flatMap Dh).length+(aJ pO [ag G,ag E,ag F,ag S]).length<=10000000000:=by have e:Dh ⟨G,E,F,S⟩=aJ pO [ag G,ag E,ag F,ag S]:=rfl;rw[e]at Z;simp only[la];omega
       have OJ:=s.2.1.bk aN (by decide) (by decide);have ab:iN wr:=hT.below s.2.2 hG;have uP:PN wr g gs:=(hP.below P).kp ar s.1 (uV.trans s.2.1);have jc:=nt (nt O z0) (uV.trans s.2.1).size;have L:=J s;have ac:=s.1;clear hy Z s Y;go_wp2_with fail
       obtain⟨A,H⟩:∃A,wr.alloc (.cells #[.int .i64 G,.int .i64 E,.int .i64 F,.int .i64 S] 58)=A:=⟨_,rfl⟩
       rw[H];have t:Below wr.heap.size wr A:=by rw[<-H];exact(gD _ _).alloc (ae _) _
       have M:Bk A wr.heap.size 58 #[.int .i64 G,.int .i64 E,.int .i64 F,.int .i64 S]:=by rw[<-H];exact Bk.new _ _ _
       clear H q0 q1 q2 q3;have BP:=OJ.below t;have bg:=ab.all t;have zD:=ac.below t;have p0:A.cell? ⟨u.heap.size,0,none⟩=some (.pointer (some ⟨g,0,none⟩)):=BP.cell 0;have v0:A.cell? ⟨wr.heap.size,0,none⟩=some (.int .i64 G):=M.cell 0;have v1:A.cell? ⟨wr.heap.size,1,none⟩=some (.int .i64 E):=M.cell 1;have v2:A.cell? ⟨wr.heap.size,2,none⟩=some (.int .i64 F):=M.cell 2;have v3:A.cell? ⟨wr.heap.size,3,none⟩=some (.int .i64 S):=M.cell 3
       go_region_held3 (λC=>C.cell? ⟨u.heap.size,0,none⟩=some (.pointer (some ⟨g,0,none⟩))/\C.cell? ⟨wr.heap.size,0,none⟩=some (.int .i64 G)/\C.cell? ⟨wr.heap.size,1,none⟩=some (.int .i64 E)/\C.cell? ⟨wr.heap.size,2,none⟩=some (.int .i64 F)/\C.cell? ⟨wr.heap.size,3,none⟩=some (.int .i64 S))
        (first
         |exact⟨(z.bk (BP.below j) (by decide) (by decide)).cell 0,(z.bk (M.below j) (by decide) (by decide)).cell 0,(z.bk (M.below j) (by decide) (by decide)).cell 1,(z.bk (M.below j) (by decide) (by decide)).cell 2,(z.bk (M.below j) (by decide) (by decide)).cell 3⟩
         |exact⟨dE _ (ah j p0),dE _ (ah j v0),dE _ (ah j v1),dE _ (ah j v2),dE _ (ah j v3)⟩
         |exact⟨ah j p0,ah j v0,ah j v1,ah j v2,ah j v3⟩
         |exact⟨ah m p0,ah m v0,ah m v1,ah m v2,ah m v3⟩
         |exact⟨ah p p0,ah p v0,ah p v1,ah p v2,ah p v3⟩
         |exact⟨ah a p0,ah a v0,ah a v1,ah a v2,ah a v3⟩
         |go_keep)
        (first
         |(go_at_call 20;refine(bi _ G bg.drew r0).mono ?_;rintro e w1 ⟨rfl,I⟩;have a:=lC I)
         |(go_at_call 20;refine(bi _ E (bg.all a) r1).mono ?_;rintro e w2 ⟨rfl,R⟩;have p:=bt a R)
         |(go_at_call 20;refine(bi _ F (bg.all p) r2).mono ?_;rintro e w3 ⟨rfl,V⟩;have m:=bt p V)
         |(go_at_call 20;refine(bi _ S (bg.all m) r3).mono ?_;rintro e w4 ⟨rfl,a6⟩;have j:=bt m a6)
         |(go_at_call 19;refine(nC w4 w4.heap.size 4 rfl Bd g T _ pO [ag G,ag E,ag F,ag S] rfl (zD.below j) aa).mono ?_;rintro e wz ⟨rfl,ad,z,ak⟩))
       go_wp2;go_roundw
       case rel=>exact⟨k+1,by omega,by simp,by rw[ay.out,<-mL];exact ad,L.2.1.trans ((KP.below (bt t j)).trans z),L.2.2.trans (((bt t j).mono jc).trans ak)⟩
       case measure=>simp[intOf];omega
      obtain rfl:k=x.gx.length:=by omega
      rw[lf]at s;have L:=J s;have l8:wr.cell? ⟨u.heap.size+1,8,none⟩=some (.slice A8 x.gR.length c8):=(s.2.1.bk aM (by decide) (by decide)).cell 8;have jc:=nt (nt O z0) (uV.trans s.2.1).size;have OJ:=s.2.1.bk aN (by decide) (by decide);have p0:wr.cell? ⟨u.heap.size,0,none⟩=some (.pointer (some ⟨g,0,none⟩)):=OJ.cell 0;have ab:iN wr:=hT.below s.2.2 hG;have bL:=(NK.trans s.2.1).sl ky.ok h8;clear s;by_cases h0:x.gR=[]
      .have hz:Ib x.gR=[]:=by rw[h0];rfl
       have bM:¬(0<x.gR.length):=by rw[h0];simp
       have Hz:=J hz;clear hz h0;go_wp2_with fail
       rw[Hz.out,pp];have aD:wr.heap[D]?=some (.deferred (some [])):=(L.2.1).same D _ hK trivial;refine⟨by simp,.inl ⟨_,_,rfl,run_takeDeferred aD,?_⟩⟩;have al:=grownBy_putObj' wr D (.deferred none);refine⟨_,results_none rfl _ _ _,rfl,Uf (by have:=L.1;simpa using this) al (λr e=>by cases e;exact⟨_,aD,rfl⟩),Tm (NK.trans (L.2.1)) al (λr e=>by cases e;exact nt bq hD),(L.2.2).grown al (by omega) (λr e=>by cases e;omega)⟩
      have hz:Ib x.gR=aJ qG (x.gR.map dO):=by unfold Ib;rw[if_neg (by simpa using h0)]
      have bM:0<x.gR.length:=tz.2 h0;have aa:(q++U++T2++x.gi.flatMap (ry gs)++x.gh.flatMap uD++x.gx.flatMap Dh).length+(aJ qG (x.gR.map dO)).length<=1000000000000:=by rw[<-hz];simp only[la];omega
      have Hz:=J hz;have ac:=L.1;clear hz h0;have bN:Sl ky 2 wr.drew (FT wr.drew) A8 x.gR:=(KP.below (gD _ _).drew).sl ky.ok bL;have FC:=L.out;have bO:=FC.2.1.bk aM (by decide) (by decide);have bP:Hid (x.gR.length=(x.gR.map dO).length):=J (lE dO).symm;have bR:(x.gR.map dO).length<=1000000000000:=by rw[lE];omega
      go_wp2_with fail
      go_region_held3 (λC=>C.cell? ⟨u.heap.size,0,none⟩=some (.pointer (some ⟨g,0,none⟩))/\C.cell? ⟨u.heap.size+1,8,none⟩=some (.slice A8 x.gR.length c8))
       (first
        |exact⟨(z.bk (OJ.below a) (by decide) (by decide)).cell 0,(z.bk (bO.below a) (by decide) (by decide)).cell 8⟩
        |exact⟨ah a p0,ah a l8⟩
        |go_keep)
       (first
        |(go_at_call 23;refine(AV _ A8 c8 x.gR ab.drew bN (by omega)).mono ?_;rintro e w1 ⟨Aw,cw,rfl,bS,I⟩;have a:=lC I)
        |(go_at_call 19;refine(zL w1 Bd g T _ qG Aw cw x.gR.length (x.gR.map dO) bP (ac.below a) (vJ bS) ⟨aa,bR⟩).mono ?_;rintro e wz ⟨rfl,ad,z,ak⟩))
      go_wp2_with fail
      rw[Hz.out];have a7:=L.2.1.trans ((KP.below a).trans z);have bV:=L.2.2.trans ((a.mono jc).trans ak);have bX:=a7.size;have aD:wz.heap[D]?=some (.deferred (some [])):=(a7).same D _ hK trivial;refine⟨by simp,.inl ⟨_,_,rfl,run_takeDeferred aD,?_⟩⟩;have al:=grownBy_putObj' wz D (.deferred none);refine⟨_,results_none rfl _ _ _,rfl,Uf (by have:=ad;simpa using this) al (λr e=>by cases e;exact⟨_,aD,rfl⟩),Tm (NK.trans (a7)) al (λr e=>by cases e;exact nt bq hD),(bV).grown al (by omega) (λr e=>by cases e;omega)⟩
end
section
attribute [-go_sem] Builtin.append_
theorem DI (L:List B)(t:B)(h:∀(j:Nat) (s:B),L[j]?=some s->s≠t):jH L t=0:=by rw[jH,if_neg];intro a;obtain⟨j,b⟩:=pn.1 a;exact h j t b rfl
theorem JJ (L:List B)(t:B)(k:Nat)(h:L[k]?=some t)(a:∀(j:Nat) (s:B),j<k->L[j]?=some s->s≠t):jH L t=(k:Int)+1:=by
 rw[jH,if_pos (kj h)];have:L.findIdx (· ==t)=k:=by rw[List.findIdx_eq (ll.1 h).1];obtain⟨d,b⟩:=ll.1 h;refine⟨by simp[b],λj c=> ?_⟩;have:=a j L[j] c (jO (by omega));simpa using this
 rw[this]
theorem tZ:aH.length=8:=by decide
theorem Jh (k:Nat)(s:B)(h:aH[k]?=some s)(w:World):(Instr.index 181 (.agg (strs aH).toArray) (.int .i64 (k:Int))).run Tryz.prog w=.ok (.string s) w:=by
 have d:k<8:=by have:=(ll.1 h).1;rw[tZ]at this;exact this
 have c:=lO h;have a:(k:Int)<8:=by omega
 have b:(0:Int)<=k:=by omega
 simp[Instr.index,go_sem,a,b,c];omega
theorem MK:(strs aH).toArray.size=8:=by simp[zS,tZ]
theorem Y4 (s:PS)(l:List B)(h:l.length≠1)(b:∀a,l≠[a,fO]):jB s l=.error 22:=by
 unfold jB;split
 .rename_i k r;rw[if_neg];rintro(e|e)
  .subst e;exact h rfl
  subst e;exact b _ rfl
 rfl
theorem Jn (s:PS)(a:B)(r:List B)(b:r=[]\/r=[fO]):jB s (a::r)=if jH aH a=0 then .error 22 else .ok {s with f:= {s.f with ge:=s.f.ge++[⟨jH aH a,!r.isEmpty,[]⟩]}} :=by show(if r=[]\/r=[fO]then _ else _)=_;rw[if_pos b]
theorem Vo (Bd p G cm:Nat)(gl:Gl)(s:PS)(rv:Rows)(K:Nat)(A:Option Addr)(n c:Nat)(ws:List P3)(t a:B)(l:ie u Bd p G cm gl s rv K)(H:lR u A n ws)(I:af ws=t::[a])(hK:K<=10000000000)(T:mB u):
  Calls Tryz.prog 57 #[.pointer (p,0),A n c] u (iS u Bd p G cm gl (K+n) (jB s [a])):=by
 have hn:n=2:=by rw[<-H.length];exact dR I
 obtain⟨b,o,rfl,hb,q1,aa⟩:=H.word (k:=1) (t:=a) (by rw[I];rfl) (d:=3) rfl;subst hn;have HP:=J l;obtain⟨A0,c0,L⟩:=l.slice (i:=2) (by decide);have kp:u.cell? (p,3)=some (rv 2).v:=l.par.cell 3;rw[L]at kp;have U:=l.i 2 (by decide);have V:=J (Jn s a [] (by simp));obtain⟨ty,fz,M⟩:=T.kinds;have N:=J Jh;have z:=MK;have e:Hid (∀k:Nat,(∀j s,j<k->aH[j]?=some s->s≠a)->((aH[k]?=some a->jH aH a=(k:Int)+1)/\(8<=k->jH aH a=0))):=λk m=>by
  refine⟨λh=>JJ _ a k h m,λhk=>DI _ a λj s E=>m j s ?_ E⟩;have:=(ll.1 E).1;rw[tZ]at this;omega
 generalize (strs aH).toArray=W at*
 have QV:=J (show(Tryz.prog.info? 181).map (·.size)=some W.size by rw[z];kernel_rfl);clear z l H I aa T;go_enter Tryz.func57,Tryz.ntmps57
 go_wp2_with (refine wpList_load_row rfl 181 (.global 2) rfl 2 rfl ty W fz _ M Tryz.underlying181 rfl QV ?_)
 go_loop [26] (λi=>∃k:Nat,k<=8/\i=.int .i64 k/\Hid (∀j s,j<k->aH[j]?=some s->s≠a)) (λi=>8 - (intOf i).toNat)
 case atStart=>exact⟨0,by omega,rfl,λj s E=>by omega⟩
 case round=>
  obtain⟨k,hk,rfl,m⟩:=hrel;by_cases O:k<8
  .obtain⟨y,C⟩:∃y,aH[k]?=some y:=⟨_,jO (by rw[tZ];exact O)⟩
   have X:=N k y C;by_cases he:y=a
   .have q:Hid (jB s [a]=.ok {s with f:= {s.f with ge:=s.f.ge++[⟨(k:Int)+1,false,[]⟩]}}):=by
     show _=_;have:=(e k m).1 (by rw[C,he]);rw[V.out,this,if_neg (by omega)];rfl
    have e1:(y==a)=true:=by simp[he]
    have w:=HP.out;have g:=w.live.own 2 (by decide);rw[L]at g;obtain⟨Y,Z,w9,ab,P,D,F⟩:=Bg LQ 26 u Bd _ c0 A0 _ #[.int .i64 ((k:Int)+1),.bool false,()] rfl g (by simp[Value.oneCell']) (by omega) w.size;rw[<-L]at D F;have Q:Bk w9 p kJ (eQ s rv G cm):=(w.row (i:=2) (by decide) (r:=⟨Y ((rv 2).n+1) Z,_,_⟩) D P F).1;have x9:w9.cell? (p,3)=some (rv 2).v:=Q.cell 3;have y9:=Q.frozen 3;have bZ:=J (w.BA (kd:=(k:Int)+1) (ig:=false) D P F ⟨by omega,by omega⟩ (K':=K+2) (by omega));have jd:=J (w.qD (i:=2) (by decide) D 3 (Y ((rv 2).n+1) Z) w.size);clear C he m g P D F Q w;go_wp2;go_ret
    obtain⟨ac,g1,g2⟩:=bZ;exact iS.O q jd g2 g1
   have R:Hid (∀j s,j<k+1->aH[j]?=some s->s≠a):=λj s' E x=>by
    by_cases S:j=k
    .subst S;rw[C]at x;cases x;exact he
    exact m j s' (by omega) x
   have e1:(y==a)=false:=by simpa using he
   clear C he;go_wp2
   go_round
   case rel=>exact⟨k+1,by omega,by simp,R⟩
   case measure=>simp[intOf];omega
  have q:Hid (jB s [a]=.error 22):=by show _=_;rw[V.out,if_pos ((e.out k m.out).2 (by omega))]
  go_wp2;go_ret
  exact iS.bad q (gD _ _)
theorem Vm (Bd p I cm:Nat)(gl:Gl)(s:PS)(rv:Rows)(K:Nat)(A:Option Addr)(n c:Nat)(ws:List P3)(t a:B)(l:ie u Bd p I cm gl s rv K)(E:lR u A n ws)(F:af ws=t::[a,fO])(hK:K<=10000000000)(U:mB u):
  Calls Tryz.prog 57 #[.pointer (p,0),A n c] u (iS u Bd p I cm gl (K+n) (jB s [a,fO])):=by
 have hn:n=3:=by rw[<-E.length];exact dR F
 obtain⟨b,o,rfl,hb,q1,aa⟩:=E.word (k:=1) (t:=a) (by rw[F];rfl) (d:=3) rfl;obtain⟨b',o',V,-,q2,L⟩:=E.word (k:=2) (t:=fO) (by rw[F];rfl) (d:=6) rfl;obtain⟨rfl,rfl⟩:b=b'/\o=o':=by simpa using V
 clear V L;subst hn;have HP:=J l;obtain⟨A0,c0,M⟩:=l.slice (i:=2) (by decide);have kp:u.cell? (p,3)=some (rv 2).v:=l.par.cell 3;rw[M]at kp;have W:=l.i 2 (by decide);have X:=J (Jn s a [fO] (by simp));obtain⟨ty,fz,N⟩:=U.kinds;have O:=J Jh;have z:=MK;have e:Hid (∀k:Nat,(∀j s,j<k->aH[j]?=some s->s≠a)->((aH[k]?=some a->jH aH a=(k:Int)+1)/\(8<=k->jH aH a=0))):=λk m=>by
  refine⟨λh=>JJ _ a k h m,λhk=>DI _ a λj s G=>m j s ?_ G⟩;have:=(ll.1 G).1;rw[tZ]at this;omega
 generalize (strs aH).toArray=Y at*
 have QV:=J (show(Tryz.prog.info? 181).map (·.size)=some Y.size by rw[z];kernel_rfl);clear z l E F aa U;go_enter Tryz.func57,Tryz.ntmps57
 go_wp2_with (refine wpList_load_row rfl 181 (.global 2) rfl 2 rfl ty Y fz _ N Tryz.underlying181 rfl QV ?_)
 go_loop [26] (λi=>∃k:Nat,k<=8/\i=.int .i64 k/\Hid (∀j s,j<k->aH[j]?=some s->s≠a)) (λi=>8 - (intOf i).toNat)
 case atStart=>exact⟨0,by omega,rfl,λj s G=>by omega⟩
 case round=>
  obtain⟨k,hk,rfl,m⟩:=hrel;by_cases P:k<8
  .obtain⟨y,C⟩:∃y,aH[k]?=some y:=⟨_,jO (by rw[tZ];exact P)⟩
   have Z:=O k y C;by_cases he:y=a
   .have q:Hid (jB s [a,fO]=.ok {s with f:= {s.f with ge:=s.f.ge++[⟨(k:Int)+1,true,[]⟩]}}):=by
     show _=_;have:=(e k m).1 (by rw[C,he]);rw[X.out,this,if_neg (by omega)];rfl
    have e1:(y==a)=true:=by simp[he]
    have w:=HP.out;have g:=w.live.own 2 (by decide);rw[M]at g;obtain⟨A5,c5,w9,ab,Q,D,H⟩:=Bg LQ 26 u Bd _ c0 A0 _ #[.int .i64 ((k:Int)+1),.bool true,()] rfl g (by simp[Value.oneCell']) (by omega) w.size;rw[<-M]at D H;have R:Bk w9 p kJ (eQ s rv I cm):=(w.row (i:=2) (by decide) (r:=⟨A5 ((rv 2).n+1) c5,_,_⟩) D Q H).1;have x9:w9.cell? (p,3)=some (rv 2).v:=R.cell 3;have y9:=R.frozen 3;have bZ:=J (w.BA (kd:=(k:Int)+1) (ig:=true) D Q H ⟨by omega,by omega⟩ (K':=K+3) (by omega));have jd:=J (w.qD (i:=2) (by decide) D 3 (A5 ((rv 2).n+1) c5) w.size);clear C he m g Q D H R w;go_wp2;go_ret
    obtain⟨ac,g1,g2⟩:=bZ;exact iS.O q jd g2 g1
   have S:Hid (∀j s,j<k+1->aH[j]?=some s->s≠a):=λj s' G x=>by
    by_cases T:j=k
    .subst T;rw[C]at x;cases x;exact he
    exact m j s' (by omega) x
   have e1:(y==a)=false:=by simpa using he
   clear C he;go_wp2
   go_round
   case rel=>exact⟨k+1,by omega,by simp,S⟩
   case measure=>simp[intOf];omega
  have q:Hid (jB s [a,fO]=.error 22):=by show _=_;rw[X.out,if_pos ((e.out k m.out).2 (by omega))]
  go_wp2;go_ret
  exact iS.bad q (gD _ _)
theorem Vp (H p v I:Nat)(L:Gl)(s:PS)(N:Rows)(K:Nat)(A:Option Addr)(n c:Nat)(M:List P3)(t:B)(l:List B)(x:ie u H p v I L s N K)(g:lR u A n M)(h:af M=t::l)(j:l.length≠1)(i:∀a,l≠[a,fO]):
  Calls Tryz.prog 57 #[.pointer (p,0),A n c] u (iS u H p v I L (K+n) (jB s l)):=by
 have m:n=l.length+1:=by rw[<-g.length];exact dR h
 have y:=J (Y4 s l j i);by_cases q:l.length=2
 .obtain⟨r,f,rfl⟩:∃r f,l=[r,f]:=by
   match l,q with
   |[a,b],_=>exact⟨a,b,rfl⟩
  obtain⟨b,o,rfl,D,E,w⟩:=g.word (k:=2) (t:=f) (by rw[h];rfl) (d:=6) rfl;have z:f≠fO:=λe=>i r (by rw[e])
  have C:(f==[105,103,110,111,114,101])=false:=by rw[beq_eq_false_iff_ne];exact z
  simp only[aV,ln]at m;subst m;clear x g h j i q z w;go_enter Tryz.func57,Tryz.ntmps57
  go_wp2;go_ret
  exact iS.bad y (gD _ _)
 have F:((n:Int)==3)=false:=by simp;omega
 have C:((n:Int)==2)=false:=by simp;omega
 have G:((n:Int) !=2)=true:=by simp;omega
 clear x g h j i q m;go_enter Tryz.func57,Tryz.ntmps57
 go_wp2;go_ret
 exact iS.bad y (gD _ _)
theorem Qn (o p b q:Nat)(r:Gl)(s:PS)(v:Rows)(K:Nat)(A:Option Addr)(n c:Nat)(w:List P3)(t:B)(l:List B)(f:ie u o p b q r s v K)(g:lR u A n w)(h:af w=t::l)(i:K<=10000000000)(j:mB u):
  Calls Tryz.prog 57 #[.pointer (p,0),A n c] u (iS u o p b q r (K+n) (jB s l)):=by
 by_cases k:l.length=1
 .obtain⟨d,rfl⟩:∃d,l=[d]:=by
   match l,k with
   |[a],_=>exact⟨a,rfl⟩
  exact Vo u o p b q r s v K A n c w t d f g h i j
 by_cases m:∃a,l=[a,fO]
 .obtain⟨d,rfl⟩:=m;exact Vm u o p b q r s v K A n c w t d f g h i j
 exact Vp u o p b q r s v K A n c w t l f g h k (λa e=>m ⟨a,e⟩)
theorem C9:anchorNames.length=4:=by decide
theorem YC (k:Nat)(s:B)(h:anchorNames[k]?=some s)(w:World):(Instr.index 180 (.agg (strs anchorNames).toArray) (.int .i64 (k:Int))).run Tryz.prog w=.ok (.string s) w:=by
 have d:k<4:=by have:=(ll.1 h).1;rw[C9]at this;exact this
 have c:=lO h;have a:(k:Int)<4:=by omega
 have b:(0:Int)<=k:=by omega
 simp[Instr.index,go_sem,a,b,c];omega
theorem D':(strs anchorNames).toArray.size=4:=by simp[zS,C9]
theorem G4:∀i j:Fin 4,anchorNames[i.val]?=anchorNames[j.val]? ->i=j:=by decide
def qe (t:B)(k:Nat)(a:Int):Prop:=(a=0/\∀j s,j<k->anchorNames[j]?=some s->s≠t)\/(∃j,j<k/\a=(j:Int)+1/\anchorNames[j]?=some t)
theorem qe.hit {s:B}{k:Nat}(_h:qe T k E)(b:anchorNames[k]?=some s)(e:s=T):qe T (k+1) ((k:Int)+1):= .inr ⟨k,by omega,rfl,by rw[b,e]⟩
theorem qe.xS {s:B}{k:Nat}(h:qe T k E)(g:anchorNames[k]?=some s)(e:s≠T):qe T (k+1) E:=by
 rcases h with⟨f,b⟩|⟨j,f,b,i⟩
 .refine .inl ⟨f,λj l m a=> ?_⟩;by_cases c:j=k
  .subst c;rw[g]at a;cases a;exact e
  exact b j l (by omega) a
 exact .inr ⟨j,by omega,b,i⟩
theorem qe.done {k:Nat}(h:qe T k E)(o:4<=k):jH anchorNames T=E:=by
 have b:∀j s,anchorNames[j]?=some s->j<4:=λj s a=>by have:=(ll.1 a).1;rw[C9]at this;exact this
 rcases h with⟨g,c⟩|⟨j,g,c,d⟩
 .rw[g];exact DI _ T λj s a=>c j s (by have:=b j s a;omega) a
 rw[c];refine JJ _ T j d λi s hi l e=> ?_
 subst e;have m:=b i s l;have n:=b j s d;have:=G4 ⟨i,m⟩ ⟨j,n⟩ (l.trans d.symm);simp only[Fin.mk.injEq]at this;omega
theorem qe.i64 {k:Nat}(h:qe T k E)(b:k<=4):gN E:=by
 rcases h with⟨rfl,_⟩|⟨j,c,d,e⟩
 .exact⟨by omega,by omega⟩
 exact⟨by omega,by omega⟩
theorem Y2 (s:PS)(l:List B)(h:l.length≠4):lX s l=.error 22:=by
 unfold lX;split
 .rfl
 split
 .simp at h
 rfl
abbrev EH:TypeId:=56
theorem Qm (w:World)(Bd p gm cm:Nat)(gl:Gl)(s:PS)(rv:Rows)(K:Nat)(A:Option Addr)(n c:Nat)(ws:List P3)(t:B)(l:List B)(Y:ie w Bd p gm cm gl s rv K)(Z:lR w A n ws)(hT:af ws=t::l)(hK:K<=10000000000)(kL:mB w){bW:List hU}{g:hU}(hs:s.f.ga=bW++[g]){G n0 c9 q:Nat}(h0:(rv 0).v=.slice (G,0) n0 c9)(hq:q=bW.length*9):
  Calls Tryz.prog 53 #[.pointer (p,0),A n c,.pointer (G,q)] w (iS w Bd p gm cm gl (K+n) (lX s l)):=by
 have hn:n=l.length+1:=by rw[<-Z.length];exact dR hT
 have hB:=Y.size;by_cases h1:l.length=4
 .obtain⟨C,a,r,x,rfl⟩:∃C a r x,l=[C,a,r,x]:=by
   match l,h1 with
   |[a1,a2,a3,a4],_=>exact⟨a1,a2,a3,a4,rfl⟩
  obtain⟨b,o,rfl,hb,q1,a9⟩:=Z.word (k:=1) (t:=C) (by rw[hT];rfl) (d:=3) rfl;obtain⟨b',o',W,-,q2,aw⟩:=Z.word (k:=2) (t:=a) (by rw[hT];rfl) (d:=6) rfl;obtain⟨rfl,rfl⟩:b=b'/\o=o':=by simpa using W
  clear W;obtain⟨b',o',W,-,q3,aD⟩:=Z.word (k:=3) (t:=r) (by rw[hT];rfl) (d:=9) rfl;obtain⟨rfl,rfl⟩:b=b'/\o=o':=by simpa using W
  clear W;obtain⟨b',o',W,-,q4,WM⟩:=Z.word (k:=4) (t:=x) (by rw[hT];rfl) (d:=12) rfl;obtain⟨rfl,rfl⟩:b=b'/\o=o':=by simpa using W
  clear W;simp only[aV,ln]at hn;subst hn;have HP:=J Y;obtain⟨Q,ba,ci,gv,-,-,bb,lH,Ez,xK⟩:=Y.sr hs;obtain⟨rfl,bc,rfl⟩:Q=G/\bW.length+1=n0/\ba=c9:=by rw[gv]at h0;simpa using h0
  have aa:Q<w.heap.size:=bb;obtain⟨A0,c0,hv⟩:=Y.slice (i:=11) (by decide);have kp:w.cell? (Q,q+6)=some (rv 11).v:=by rw[hq];exact lH 6 (by decide)
  rw[hv]at kp;have bB:=Y.i 11 (by decide);have HR:Hid (lX s [C,a,r,x]=if jH anchorNames C=0 then .error 22 else fin (gu 0 [a,r,x]) {s with f:= {s.f with ga:=bW++[{g with gh:=g.gh++[⟨jH anchorNames C,aI a,aI r,aI x⟩]}]}}):=by show _=_;unfold lX;rw[if_neg (AO hs)];simp only;rw[yc s _ hs]
  have Hs:=J hs;have Hq:=J hq;have H0:=J h0;have yj:=J xK;have uC:=J (λw rb er h=>eG w rb p er a h aw);have bd:=J (dU a);have Ef:=J (λw rb er h=>eG w rb p er r h aD);have bg:=J (dU r);have QK:=J (λw rb er h=>eG w rb p er x h WM);have bh:=J (dU x);generalize aI a=D at*
  generalize aI r=S at*
  generalize aI x=U at*
  obtain⟨ty,fz,aE⟩:=kL.M;have aL:1<w.heap.size:=kL.M.lt;have bj:=J YC;have aM:=D';generalize (strs anchorNames).toArray=cs at*
  have QV:=J (show(Tryz.prog.info? 180).map (·.size)=some cs.size by rw[aM];kernel_rfl);have bk:Hid ((w.alloc (.cells #[.int .i64 0,.int .i64 0,.int .i64 0,.int .i64 0] EH)).heap[1]?=some (.cells cs ty fz)):=(Below.heap_alloc w _ _ aL).trans aE;have bl:Hid (Bk (w.alloc (.cells #[.int .i64 0,.int .i64 0,.int .i64 0,.int .i64 0] EH)) w.heap.size EH #[.int .i64 0,.int .i64 0,.int .i64 0,.int .i64 0]):=Bk.new _ _ _;have bm:Hid (Below w.heap.size w (w.alloc (.cells #[.int .i64 0,.int .i64 0,.int .i64 0,.int .i64 0] EH))):=J ((gD _ _).alloc (ae _) _);clear aM Y Z hT a9 aw aD WM kL hs hq h0 gv lH Ez xK bc h1 aE aL;have bn:=J q1;have bo:=J q2;have bp:=J q3;have bq:=J q4;clear q1 q2 q3 q4;go_enter Tryz.func53,Tryz.ntmps53
  go_wp2_with (refine wpList_load_row rfl 180 (.global 1) rfl 1 rfl ty cs fz _ bk Tryz.underlying180 rfl QV ?_)
  go_loopw [15] (λi wr=>∃(k:Nat) (y:Int),k<=4/\i=.int .i64 k/\Hid (qe C k y)/\Bk wr w.heap.size EH #[y,.int .i64 0,.int .i64 0,.int .i64 0]/\Below w.heap.size w wr) (λi _=>4 - (intOf i).toNat)
  case atStart=>exact⟨0,0,by omega,rfl,.inl ⟨rfl,λj s hj=>by omega⟩,bl,bm⟩
  case round=>
   obtain⟨k,y,hk,rfl,X,T,u⟩:=hrel;have d0:wr.cell? ⟨w.heap.size,0,none⟩=some (.int .i64 y):=T.cell 0;have d1:=T.frozen 0;have q1:wr.cell? (b,o+3+2)=some (.string ⟨C.toArray⟩):=((aj u).1 _ _ hb).trans bn;have br:=T.lt;by_cases bs:k<4
   .obtain⟨nm,E⟩:∃nm,anchorNames[k]?=some nm:=⟨_,jO (by rw[C9];exact bs)⟩
    have aQ:=bj k nm E;by_cases he:nm=C
    .have e1:(nm==C)=true:=by simp[he]
     have ab:=J (X.hit E he);have F:=J (T.set 0 (.int .i64 ((k:Int)+1)));have z:=J (u.setCell (p:=⟨w.heap.size,0,none⟩) (ae _) (.int .i64 ((k:Int)+1)));clear E he T u X;go_wp2;go_roundw
     case rel=>exact⟨k+1,(k:Int)+1,by omega,by simp,ab,F,z⟩
     case measure=>simp[intOf];omega
    have e1:(nm==C)=false:=by simpa using he
    have ab:=J (X.xS E he);have F:=J T;have z:=J u;clear E he T u X;go_wp2;go_roundw
    case rel=>exact⟨k+1,y,by omega,by simp,ab,F,z⟩
    case measure=>simp[intOf];omega
   obtain rfl:k=4:=by omega
   have H:=X.done (ae _);have aR:=J (X.i64 (ae _));by_cases I:y=0
   .have V:Hid (lX s [C,a,r,x]=.error 22):=by
     show _=_;rw[HR.out,if_pos (by rw[H,I])]
    subst I;have z:=J u;clear T u X H aR;go_wp2;go_ret
    exact iS.bad V (z.mono hB)
   have V:Hid (lX s [C,a,r,x]=fin (gu 0 [a,r,x]) {s with f:= {s.f with ga:=bW++[{g with gh:=g.gh++[⟨y,D,S,U⟩]}]}}):=by show _=_;rw[HR.out,if_neg (by rw[H];exact I),H]
   have e1:(y==0)=false:=by simpa using I
   have F:=J T;have z:=J u;clear T u X H I;go_wp2_with fail
   refine(iE wr p).mono ?_;rintro e w1 ⟨rfl,ac,ad⟩;have bE:=ac.lt;have a0:Hid (Below w.heap.size w w1):=z.trans (ad.mono z.size);have uA:Hid (Bk w1 w.heap.size EH #[y,.int .i64 0,.int .i64 0,.int .i64 0]):=F.keep (ad.block w.heap.size br);have mg:=J ac;clear ac ad;have bH:b≠w.heap.size:=by omega
   have bK:Q≠w.heap.size:=by omega
   have bL:wr.heap.size≠w.heap.size:=by omega
   have ak:w.heap.size<=wr.heap.size:=by omega
   have p1:w1.cell? (b,o+6+2)=some (.string ⟨a.toArray⟩):=((aj a0).1 _ _ hb).trans bo;go_wp2_with fail
   refine(uC _ _ _ (by exact mg)).mono ?_;rintro e w2 ⟨rfl,a5,al⟩;have ao:=bu a0 al ak;have bV:Bk w2 w.heap.size EH #[y,.int .i64 0,.int .i64 0,.int .i64 0]:=Bk.L al uA (by omega);have FV:w2.cell? ⟨w.heap.size,1,none⟩=some (.int .i64 0):=bV.cell 1;have y2:=bV.frozen 1;have bM:=bV.lt;have p2:w2.cell? (b,o+9+2)=some (.string ⟨r.toArray⟩):=((aj ao).1 _ _ hb).trans bp;have nO:Hid (i8 (w2.setCell ⟨w.heap.size,1,none⟩ (.int .i64 D)) wr.heap.size p (aP 0 a)):=Bk.I a5 (by simp;omega) _;have bv:=J (ao.setCell (p:=⟨w.heap.size,1,none⟩) (ae _) (.int .i64 D));have lZ:Hid (Bk (w2.setCell ⟨w.heap.size,1,none⟩ (.int .i64 D)) w.heap.size EH #[y,D,.int .i64 0,.int .i64 0]):=bV.set 1 _;clear a5 al ao bV;go_wp2_with fail
   refine(Ef _ _ _ (by exact nO)).mono ?_;rintro e w3 ⟨rfl,a6,ap⟩;have aq:=bu bv ap ak;have L:Bk w3 w.heap.size EH #[y,D,.int .i64 0,.int .i64 0]:=Bk.L ap lZ (by omega);have bN:w3.cell? ⟨w.heap.size,2,none⟩=some (.int .i64 0):=L.cell 2;have y3:=L.frozen 2;have bO:=L.lt;have p3:w3.cell? (b,o+12+2)=some (.string ⟨x.toArray⟩):=((aj aq).1 _ _ hb).trans bq;have ou:Hid (i8 (w3.setCell ⟨w.heap.size,2,none⟩ (.int .i64 S)) wr.heap.size p (aP (aP 0 a) r)):=Bk.I a6 (by simp;omega) _;have bw:=J (aq.setCell (p:=⟨w.heap.size,2,none⟩) (ae _) (.int .i64 S));have lM:Hid (Bk (w3.setCell ⟨w.heap.size,2,none⟩ (.int .i64 S)) w.heap.size EH #[y,D,S,.int .i64 0]):=L.set 2 _;clear a6 ap aq L;go_wp2_with fail
   refine(QK _ _ _ (by exact ou)).mono ?_;rintro e w4 ⟨rfl,a7,ar⟩;have a8:=bu bw ar ak;have M:Bk w4 w.heap.size EH #[y,D,S,.int .i64 0]:=Bk.L ar lM (by omega);have bP:w4.cell? ⟨w.heap.size,3,none⟩=some (.int .i64 0):=M.cell 3;have y4:=M.frozen 3;have bR:=M.lt;have bx:Hid (i8 (w4.setCell ⟨w.heap.size,3,none⟩ (.int .i64 U)) wr.heap.size p (aP (aP (aP 0 a) r) x)):=Bk.I a7 (by simp;omega) _;have bz:=J (a8.setCell (p:=⟨w.heap.size,3,none⟩) (ae _) (.int .i64 U));have ZX:Hid (Bk (w4.setCell ⟨w.heap.size,3,none⟩ (.int .i64 U)) w.heap.size EH #[y,D,S,U]):=M.set 3 _;clear a7 ar a8 M;go_wp2_with fail
   obtain⟨N,av⟩:∃N,w4.setCell ⟨w.heap.size,3,none⟩ (.int .i64 U)=N:=⟨_,rfl⟩
   rw[av];have Hr:=bx;have Hb:=bz;have fU:=ZX;rw[av]at Hr Hb fU;have yD:N.cell? ⟨w.heap.size,0,none⟩=some (.int .i64 y):=fU.cell 0;have Am:N.cell? ⟨w.heap.size,1,none⟩=some (.int .i64 D):=fU.cell 1;have En:N.cell? ⟨w.heap.size,2,none⟩=some (.int .i64 S):=fU.cell 2;have EU:N.cell? ⟨w.heap.size,3,none⟩=some (.int .i64 U):=fU.cell 3;have aN:=HP.below Hb;have Au:N.cell? (Q,q+6)=some (A0 (rv 11).n c0):=((aj Hb).1 _ _ aa).trans kp;have zp:Q<N.heap.size:=mz aa Hb.size;have zc:w.heap.size<N.heap.size:=fU.lt;have zr:wr.heap.size<N.heap.size:=Hr.lt;have O:=aN.live.own 11 (by decide);rw[hv]at O;obtain⟨A5,c5,w9,aQ,aW,ay,bF⟩:=jh LH 48 N Bd _ c0 A0 _ #[y,D,S,U] rfl O (by simp[Value.oneCell']) (by omega) (by omega);rw[<-hv]at ay bF;have cZ:∃P,Bk w9 Q 52 P/\P[q+6]?=some (rv 11).v:=by obtain⟨P,bf⟩:=yj.out;have h1:Bk w9 Q 52 P:=Bk.grown (bf.keep (Hb.block Q aa)) ay (aN.live.own 11 (by decide)) (by decide);exact⟨P,h1,by rw[<-bf.cell,kp,hv]⟩
   obtain⟨Np,cZ,vP⟩:=cZ;have kM:=Bk.grown Hr ay (aN.live.own 11 (by decide)) (by decide);have x9:w9.cell? (Q,q+6)=some (rv 11).v:=(cZ.cell _).trans vP;have y9:=cZ.frozen (q+6);have z9:w9.cell? ⟨wr.heap.size,1,none⟩=some (.int .i64 (aP (aP (aP 0 a) r) x)):=kM.cell 1;have bA:Hid (gu 0 [a,r,x]=(aP (aP (aP 0 a) r) x)):=rfl;rw[bA.out]at V;generalize bS:(aP (aP (aP 0 a) r) x)=er at*
   have bZ:=J (ie.ark (m:=1) (K':=K+(0+1+1+1+1+1)) aN Hs H0 ay aW bF (ys:=[⟨y,D,S,U⟩]) rfl (Fl.one (R:=mc) (⟨rfl,aR,bd,bg,bh⟩) rfl) (by omega));rw[<-Hq.out]at bZ;have jd:=J (Hb.mono hB);have HQ:=J (KQ.below (cm:=cm) Hb);clear av O aW ay bF cZ kM aN vP;go_region
   all_goals
    go_wp2;go_ret
    obtain⟨bT,g1,g2,g3,-⟩:=bZ;exact iS.fin V (jd.trans g3) (HQ.trans g2) g1
 have HR:=J (Y2 s l h1);have e1:((n:Int)==5)=false:=by simp;omega
 have e2:((n:Int) !=5)=true:=by simp;omega
 clear Y Z hT h1 hn hs h0 hq;go_enter Tryz.func53,Tryz.ntmps53
 go_wp2;go_ret
 exact iS.bad HR (gD _ _)
end
abbrev dD:TypeId:=69
abbrev xh:TypeId:=71
def TR (ts:List TypeId)(lo hi:Nat)(w:World):Bs:=λb=>(lo<=b/\b<hi)/\∃cs t,Bk w b t cs/\t∈ts
theorem TR.of {ts:List TypeId}:∀b,TS ts g W b->TR ts g W.heap.size W b:=λb h=>⟨⟨h.1,TS.lt b h⟩,h.2⟩
theorem TR.ts {ts i:List TypeId}(h:∀t∈ts,t∈i)(d:g<=q):∀b,TR ts q G W b->TS i g W b:=λb ⟨⟨e,f⟩,cs,t,a,c⟩=>⟨by omega,cs,t,a,h t c⟩
section
variable {α:Type} {R:Rel α} {size:Nat} {w w':World} {ts:List TypeId} {lo hi:Nat} {A:Option Addr} {xs:List α} {cs:List Value}
theorem TR.step {row:Option Nat}(g:w.grownBy w' row)(h:∀x,row=some x->x<lo\/hi<=x):Same (TR ts lo hi w) w w'/\∀b,TR ts lo hi w b->TR ts lo hi w' b:=by
 have a:∀b,TR ts lo hi w b->w'.heap[b]?=w.heap[b]? :=λb ⟨⟨d,j⟩,cs,t,c,f⟩=>g.block b c.lt (λe=>by have:=h b e.symm;omega)
 exact⟨a,λb i=>by
  obtain⟨d,cs,t,c,f⟩:=i;exact⟨d,cs,t,(a b ⟨d,cs,t,c,f⟩).trans c,f⟩⟩
theorem il.of (a:R.Ok){b:Nat}(h:Sl R size w (TS ts b w) A xs):Sl R size w (TR ts b w.heap.size w) A xs:=h.mono a TR.of
theorem il.below (a:R.Ok)(h:Sl R size w (TR ts lo hi w) A xs)(b:Below w w w'):Sl R size w' (TR ts lo hi w') A xs:=h.C a (TR.step (az b none) (λx c=>by cases c))
theorem il.next (b:R.Ok){m:Nat}(h:Sl R size w (TR ts lo hi w) A xs)(d:m<lo)(c:Mv m w w'):Sl R size w' (TR ts lo hi w') A xs:=h.C b (TR.step c (λx a=>by injection a with a;exact .inl (by omega)))
theorem il.put (b:R.Ok){g:Nat}(h:Sl R size w (TR ts lo hi w) A xs)(c:g<lo\/hi<=g)(j:Nat)(u:Value):Sl R size (w.setCell (g,j) u) (TR ts lo hi (w.setCell (g,j) u)) A xs:=h.C b (TR.step (aX (World.grownBy.refl w (some g)) (.inl rfl) u) (λx a=>by injection a with a;rw[<-a];exact c))
theorem il.push (a:R.Ok){g n:Nat}{e:TypeId}{s:Nat}{v:Value}{i:List Value}(h:Sl R size w (TR ts lo hi w) A xs)(b:w.ownsRow g e s v n i)(c:hi<=g)(d:w.grownBy w' v.ownBlock):Sl R size w' (TR ts lo hi w') A xs:=h.C a (TR.step d (λx f=> .inr (nt c (b.lt x f).1)))
theorem il.row (a:R.Ok){row:Option Nat}(h:Sl R size w (TR ts lo hi w) A xs)(b:w.grownBy w' row)(c:∀x,row=some x->x<lo\/hi<=x):Sl R size w' (TR ts lo hi w') A xs:=h.C a (TR.step b c)
theorem il.J (a:R.Ok){ts':List TypeId}{base:Nat}(h:Sl R size w (TR ts lo hi w) A xs)(b:∀t∈ts,t∈ts')(c:base<=lo):Sl R size w (TS ts' base w) A xs:=h.mono a (TR.ts b c)
end
def gU:Array Value:= #[(),(),(),(),(),.int .i64 0]
structure RS (w:World)(m:Nat)(fs:Nat->Value)(lp:Int)(v:Array Value)(wr:World):Prop where
 b:Mk wr m fs lp
 c:Bk wr w.heap.size dD gU
 var:Bk wr (w.heap.size+1) dD v
 j:Mv m w wr
section
variable {w:World} {m:Nat} {fs:Nat->Value} {lp:Int} {v:Array Value} {wr w2:World}
theorem RS.begin (h:Mk w m fs lp):RS w m fs lp gU ((w.alloc (.cells gU dD)).alloc (.cells gU dD)):=by have a:Below w w ((w.alloc (.cells gU dD)).alloc (.cells gU dD)):=((gD _ _).alloc (ae _) _).alloc (by simp) _;refine⟨h.below a,(Bk.new w _ _).alloc _,?_,lq (Ig m w) a⟩;have:=Bk.new (w.alloc (.cells gU dD)) dD gU;simpa using this
theorem RS.next (h:RS w m fs lp v wr){a:Int}(d:Mk w2 m fs a)(b:Mv m wr w2):RS w m fs a v w2:=by have c:=Sp.next h.b b;exact⟨d,c.bk h.c (by decide),c.bk h.var (by decide),iD h.j b⟩
theorem RS.below (h:RS w m fs lp v wr)(a:Below wr wr w2):RS w m fs lp v w2:=by have b:Sp m aK wr w2:=Sp.below a;exact⟨h.b.below a,b.bk h.c (by decide),b.bk h.var (by decide),lq h.j a⟩
theorem RS.drew (h:RS w m fs lp v wr):RS w m fs lp v wr.drew:=h.below (gD _ _).drew
theorem RS.put (h:RS w m fs lp v wr)(a:m<w)(j:Nat)(u:Value):RS w m fs lp (v.setIfInBounds j u) (wr.setCell (w.heap.size+1,j) u):=by have b:Sp m dD wr (wr.setCell (w.heap.size+1,j) u):=Sp.set h.var (by omega) j u;exact⟨b.mk h.b (by decide),h.c.I (by simp) _,h.var.set j u,xY h.j (by omega) _ _⟩
theorem RS.push (h:RS w m fs lp v wr)(f:m<w){j n s:Nat}{e:TypeId}{u:Value}{xs:List Value}(b:wr.ownsRow j e s u n xs)(g:w.heap.size<=j)(i:pU≠e)(c:dD≠e)(d:wr.grownBy w2 u.ownBlock):RS w m fs lp v w2:=by have a:Sp m e wr w2:=Sp.push b (by omega) d;exact⟨a.mk h.b i,a.bk h.c c,a.bk h.var c,lW h.j b g d⟩
theorem RS.cell (h:RS w m fs lp v wr)(j:Nat):wr.cell? (w.heap.size+1,j)=v[j]? :=h.var.cell j
end
abbrev jQ:List TypeId:=[aK,kl,xh]
def ng (w:World)(m:Nat)(fs:Nat->Value)(lp:Int)(G:Nat)(j:Int)(e:Ending)(w':World):Prop:=
 ∃(r:k') (a b c d f:Option Addr) (g h c2 c3 i:Nat),mu G j r/\e=.returned (.agg #[a r.gE.length g,b r.ij.length h,c r.ahead.length c2,d r.out.length c3,f r.gw.length i,r.x])/\gN r.x/\
  Sl gT 1 w' (TS jQ w.heap.size w') a r.gE/\Sl gT 1 w' (TS jQ w.heap.size w') b r.ij/\Sl gT 1 w' (TS jQ w.heap.size w') c r.ahead/\Sl gS 1 w' (TS jQ w.heap.size w') d r.out/\Sl mo 2 w' (TS jQ w.heap.size w') f r.gw/\Mk w' m fs lp/\Mv m w w'
section
variable {w:World} {m:Nat} {fs:Nat->Value} {lp:Int} {v:Array Value} {wr w2:World}
theorem RS.tD (h:RS w m fs lp gU wr)(a:m<w){lo:Nat}{As:Option Addr}{s:List Int}{cs:Nat}(c:Sl gS 1 wr (TR [aK] lo wr.heap.size wr) As s)(d:w.heap.size+2<=lo)(e:w.heap.size+2<=wr)
  (f:(wr.setCell (w.heap.size+1,1) (.slice (wr,0) 1 1)).alloc (.cells #[As s.length cs] kl)=w2):
  RS w m fs lp #[(),.slice (wr,0) 1 1,(),(),(),.int .i64 0] w2/\Sl gS 1 w2 (TR [aK] lo wr.heap.size w2) As s/\w2.ownsRow (w.heap.size+2) kl 1 (.slice (wr,0) 1 1) 1 [As s.length cs]/\w2.heap.size=wr.heap.size+1:=by
 subst f;have g:=h.put a 1 (.slice (wr,0) 1 1);have b:Below (wr.setCell (w.heap.size+1,1) (.slice (wr,0) 1 1)).heap.size (wr.setCell (w.heap.size+1,1) (.slice (wr,0) 1 1)) ((wr.setCell (w.heap.size+1,1) (.slice (wr,0) 1 1)).alloc (.cells #[As s.length cs] kl)):=(gD _ _).alloc (ae _) _;have i:=yQ (wr.setCell (w.heap.size+1,1) (.slice (wr,0) 1 1)) (w.heap.size+2) kl 1 1 #[As s.length cs] (by simpa using e) rfl (by omega);exact⟨g.below b,il.below gS.ok (il.put gS.ok c (.inl (by omega)) 1 _) b,by simpa using i,by simp⟩
theorem RS.more (h:RS w m fs lp v wr)(g:m<w){e t:TypeId}{size:Nat}(E:mh e t size)(q:pU≠e)(r:dD≠e){j n c:Nat}{A:Option Addr}{xs:List Value}{D:Nat}(x:w.heap.size<=D)(i:D<=wr)(y:v[j]?=some (A n c))(o:wr.ownsRow D e size (A n c) n xs)(a:Array Value)(k:a.size=size)(d:∀u∈a.toList,u.oneCell'=true)(B:n<=1000):
  ∃F c5 b,(Builtin.append_ #[t,t] t #[A n c,.slice (wr,0) 1 1]).run Tryz.prog (wr.alloc (.cells a e))=.ok (.slice F (n+1) c5) b/\
   b.cell? (w.heap.size+1,j)=some (A n c)/\b.frozen? (w.heap.size+1,j)=false/\wr.grownBy b (Value.slice A n c).ownBlock/\b.ownsRow D e size (.slice F (n+1) c5) (n+1) (xs++a.toList)/\RS w m fs lp v b:=by
 obtain⟨F,c5,b,f,z,p,C⟩:=dJ E t wr D n c A xs a k o d (by omega) i;have l:=h.push g o x q r p;exact⟨F,c5,b,f,by rw[l.cell,y],l.var.frozen j,p,z,l⟩
end
def ML (W:World)(g:Nat)(a b c d e f:Value):World:=(((((W.setCell (g,0) a).setCell (g,1) b).setCell (g,2) c).setCell (g,3) d).setCell (g,4) e).setCell (g,5) f
theorem qY (h:a.grownBy W (some g))(j:Nat)(u:Value):a.grownBy (W.setCell (g,j) u) (some g):=aX h (.inl rfl) u
theorem El (g:Nat)(a b c d e f:Value):u.grownBy (ML u g a b c d e f) (some g):=by have h:=World.grownBy.refl u (some g);have i:=qY h 0 a;have j:=qY i 1 b;have k:=qY j 2 c;have l:=qY k 3 d;have n:=qY l 4 e;exact qY n 5 f
theorem SL (h:Bk W g t gU)(a b c d e f:Value):Bk (ML W g a b c d e f) g t #[a,b,c,d,e,f]:=by have i:=h.set 0 a;have j:=i.set 1 b;have k:=j.set 2 c;have l:=k.set 3 d;have n:=l.set 4 e;exact n.set 5 f
theorem lu {fs:Nat->Value}{G:Nat}{gd:Int}{r:k'}{A0 A1 A2 A3 A4:Option Addr}{c0 c1 c2 c3 c4:Nat}(h:RS W g fs E #[A0 r.gE.length c0,A1 r.ij.length c1,A2 r.ahead.length c2,A3 r.out.length c3,A4 r.gw.length c4,r.x] a)(f:g<W)(c:mu G gd r)(m:gN r.x)(lp:Sl gT 1 a (TS jQ W.heap.size a) A0 r.gE)(i:Sl gT 1 a (TS jQ W.heap.size a) A1 r.ij)(j:Sl gT 1 a (TS jQ W.heap.size a) A2 r.ahead)(k:Sl gS 1 a (TS jQ W.heap.size a) A3 r.out)(l:Sl mo 2 a (TS jQ W.heap.size a) A4 r.gw):
  Bk (ML a W.heap.size (A0 r.gE.length c0) (A1 r.ij.length c1) (A2 r.ahead.length c2) (A3 r.out.length c3) (A4 r.gw.length c4) (.int .i64 r.x)) W.heap.size dD #[A0 r.gE.length c0,A1 r.ij.length c1,A2 r.ahead.length c2,A3 r.out.length c3,A4 r.gw.length c4,r.x]/\
   ng W g fs E G gd (.returned (.agg #[A0 r.gE.length c0,A1 r.ij.length c1,A2 r.ahead.length c2,A3 r.out.length c3,A4 r.gw.length c4,r.x])) (ML a W.heap.size (A0 r.gE.length c0) (A1 r.ij.length c1) (A2 r.ahead.length c2) (A3 r.out.length c3) (A4 r.gw.length c4) (.int .i64 r.x)):=by
 have e:=El a W.heap.size (A0 r.gE.length c0) (A1 r.ij.length c1) (A2 r.ahead.length c2) (A3 r.out.length c3) (A4 r.gw.length c4) (.int .i64 r.x);have d:=SL h.c (A0 r.gE.length c0) (A1 r.ij.length c1) (A2 r.ahead.length c2) (A3 r.out.length c3) (A4 r.gw.length c4) (.int .i64 r.x);generalize ML a W.heap.size (A0 r.gE.length c0) (A1 r.ij.length c1) (A2 r.ahead.length c2) (A3 r.out.length c3) (A4 r.gw.length c4) (.int .i64 r.x)=wr at*
 have b:Sp g dD a wr:=⟨_,e,λx m=>by injection m with m;subst m;exact⟨by omega,_,h.c⟩⟩
 exact⟨d,r,A0,A1,A2,A3,A4,c0,c1,c2,c3,c4,c,rfl,m,b.sl gT.ok (by decide) lp,b.sl gT.ok (by decide) i,b.sl gT.ok (by decide) j,b.sl gS.ok (by decide) k,b.sl mo.ok (by decide) l,b.mk h.b (by decide),xX h.j e (λx m=>by injection m with m;exact .inl (by omega))⟩
structure RB (w:World)(m:Nat)(fs:Nat->Value)(lp:Int)(im:Nat)(lo1 hi1:Nat)(As:Option Addr)(s:List Int)(vi:Value)(ni:Nat)(ics:List Value)(bP hib:Nat)(Ab:Option Addr)(cb:Nat)(gE:List (List Int))(bM hia:Nat)(Aa:Option Addr)(ca:Nat)(ahead:List (List Int))(v3 v4:Value)(wr:World):Prop where
 rs:RS w m fs lp #[Ab gE.length cb,vi,Aa ahead.length ca,v3,v4,.int .i64 0] wr
 set:Sl gS 1 wr (TR [aK] lo1 hi1 wr) As s
 q:wr.ownsRow (w.heap.size+2) kl 1 vi ni ics
 fb:Sl gT 1 wr (TR [aK,kl] bP hib wr) Ab gE
 fa:Sl gT 1 wr (TR [aK,kl] bM hia wr) Aa ahead
 g:w.heap.size+2<=im/\w.heap.size+2<=lo1/\hi1<=im/\w.heap.size+2<=bP/\hib<=im/\w.heap.size+2<=bM/\hia<=im/\im<=wr
section
variable {w:World} {m:Nat} {fs:Nat->Value} {lp:Int} {im lo1 hi1:Nat} {As:Option Addr} {s:List Int} {vi:Value} {ni:Nat} {ics:List Value} {bP hib:Nat} {Ab:Option Addr} {cb:Nat} {gE:List (List Int)} {bM hia:Nat} {Aa:Option Addr} {ca:Nat} {ahead:List (List Int)} {v3 v4:Value} {wr w2:World}
theorem RB.next (h:RB w m fs lp im lo1 hi1 As s vi ni ics bP hib Ab cb gE bM hia Aa ca ahead v3 v4 wr)(b:m<w)(c:Mk w2 m fs lp)(a:Mv m wr w2):RB w m fs lp im lo1 hi1 As s vi ni ics bP hib Ab cb gE bM hia Aa ca ahead v3 v4 w2:=by obtain⟨d,e,f,g,i,j,k,l⟩:=h.g;have n:=a.size;exact⟨h.rs.next c a,il.next gS.ok h.set (by omega) a,(Sp.next h.rs.b a).own h.q (by decide),il.next gT.ok h.fb (by omega) a,il.next gT.ok h.fa (by omega) a,d,e,f,g,i,j,k,by omega⟩
theorem RB.drew (h:RB w m fs lp im lo1 hi1 As s vi ni ics bP hib Ab cb gE bM hia Aa ca ahead v3 v4 wr):RB w m fs lp im lo1 hi1 As s vi ni ics bP hib Ab cb gE bM hia Aa ca ahead v3 v4 wr.drew:=⟨h.rs.drew,h.set,h.q,h.fb,h.fa,h.g⟩
theorem RB.rn (h:RB w m fs lp im lo1 hi1 As s vi ni ics bP hib Ab cb gE bM hia Aa ca ahead v3 v4 wr){a:Nat}(f:im<=a)(b:a<=wr):RB w m fs lp a lo1 hi1 As s vi ni ics bP hib Ab cb gE bM hia Aa ca ahead v3 v4 wr:=by obtain⟨g,c,i,d,j,e,k,l⟩:=h.g;exact⟨h.rs,h.set,h.q,h.fb,h.fa,by omega,c,by omega,d,by omega,e,by omega,b⟩
theorem RB.push (h:RB w m fs lp im lo1 hi1 As s vi ni ics bP hib Ab cb gE bM hia Aa ca ahead v3 v4 wr)(c:m<w){x n f:Nat}{e:TypeId}{u:Value}{xs:List Value}(b:wr.ownsRow x e f u n xs)(y:im<=x)(g:pU≠e)(i:dD≠e)(j:kl≠e)(a:wr.grownBy w2 u.ownBlock):RB w m fs lp im lo1 hi1 As s vi ni ics bP hib Ab cb gE bM hia Aa ca ahead v3 v4 w2:=by
 obtain⟨k,l,o,p,q,r,t,z⟩:=h.g;have B:=a.size;have d:w.heap.size<=x:=by omega
 exact⟨h.rs.push c b d g i a,il.push gS.ok h.set b (by omega) a,(Sp.push (m:=m) b (by omega) a).own h.q j,il.push gT.ok h.fb b (by omega) a,il.push gT.ok h.fa b (by omega) a,k,l,o,p,q,r,t,by omega⟩
theorem RB.q' (h:RB w m fs lp im lo1 hi1 As s vi ni ics bP hib Ab cb gE bM hia Aa ca ahead v3 v4 wr)(a:m<w)(u:Value):RB w m fs lp im lo1 hi1 As s vi ni ics bP hib Ab cb gE bM hia Aa ca ahead u v4 (wr.setCell (w.heap.size+1,3) u):=by obtain⟨b,c,d,e,f,g,i,j⟩:=h.g;exact⟨h.rs.put a 3 u,il.put gS.ok h.set (.inl (by omega)) 3 u,(Sp.set (m:=m) h.rs.var (by omega) 3 u).own h.q (by decide),il.put gT.ok h.fb (.inl (by omega)) 3 u,il.put gT.ok h.fa (.inl (by omega)) 3 u,b,c,d,e,f,g,i,by simpa using j⟩
theorem RB.vD (h:RB w m fs lp im lo1 hi1 As s vi ni ics bP hib Ab cb gE bM hia Aa ca ahead v3 v4 wr)(a:m<w)(u:Value):RB w m fs lp im lo1 hi1 As s vi ni ics bP hib Ab cb gE bM hia Aa ca ahead v3 u (wr.setCell (w.heap.size+1,4) u):=by obtain⟨b,c,d,e,f,g,i,j⟩:=h.g;exact⟨h.rs.put a 4 u,il.put gS.ok h.set (.inl (by omega)) 4 u,(Sp.set (m:=m) h.rs.var (by omega) 4 u).own h.q (by decide),il.put gT.ok h.fb (.inl (by omega)) 4 u,il.put gT.ok h.fa (.inl (by omega)) 4 u,b,c,d,e,f,g,i,by simpa using j⟩
theorem RB.more (h:RB w m fs lp im lo1 hi1 As s vi ni ics bP hib Ab cb gE bM hia Aa ca ahead v3 v4 wr)(g:m<w){e t:TypeId}{size:Nat}(E:mh e t size)(p:pU≠e)(q:dD≠e)(r:kl≠e){j n c:Nat}{A:Option Addr}{xs:List Value}{F:Nat}(x:im<=F)(i:F<=wr)
  (y:(#[Value.slice Ab gE.length cb,vi,Aa ahead.length ca,v3,v4,.int .i64 0]:Array Value)[j]?=some (A n c)) (o:wr.ownsRow F e size (A n c) n xs) (a:Array Value) (k:a.size=size) (d:∀u∈a.toList,u.oneCell'=true) (C:n<=1000):
  ∃G c5 b,(Builtin.append_ #[t,t] t #[A n c,.slice (wr,0) 1 1]).run Tryz.prog (wr.alloc (.cells a e))=.ok (.slice G (n+1) c5) b/\
   b.cell? (w.heap.size+1,j)=some (A n c)/\b.frozen? (w.heap.size+1,j)=false/\b.ownsRow F e size (.slice G (n+1) c5) (n+1) (xs++a.toList)/\RB w m fs lp im lo1 hi1 As s vi ni ics bP hib Ab cb gE bM hia Aa ca ahead v3 v4 b:=by
 obtain⟨G,c5,b,f,z,B,D⟩:=dJ E t wr F n c A xs a k o d (by omega) i;have l:=h.push g o x p q r B;exact⟨G,c5,b,f,by rw[l.rs.cell,y],l.rs.var.frozen j,z,l⟩
end
theorem F':(Tryz.prog.info? dD).map (·.size)=some 6:=by kernel_rfl
theorem fA {a:Array Value}(c:Bk W g dD V)(b:V.size=6)(d:a.getD 6 undef=.pointer (g,0)):(results Tryz.f76 a).run Tryz.prog W=.ok (.agg V) W:=by rw[pM (fn:=Tryz.f76) (p:=6) (ty:=dD) rfl,d];have:=run_loadVar_row (P:=Tryz.prog) W g dD dD V (0,0) _ c Tryz.underlying69 rfl (by rw[F',b]);simp[asAddr,Result.andThen,this]
