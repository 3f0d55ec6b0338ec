/- Lemmas. -/
import Derived.Test.YtalehhjjbadlpaaGreatDoorX06
set_option linter.all false
set_option maxRecDepth 100000
set_option maxHeartbeats 32000000
namespace Go.Proofs.YtalehhjjbadlpaaGreatDoor
open Go.RowKit
variable{a:World}{e t b o:Nat}(v:World){A:Option Addr}{α:Type}{d:Array Value}{q:List P3}{f:List Value}{u:TypeId}{W:Value}{V:Rows}{P:Prop}{U:Gl}{r:mA}{n:iu}
def AG (cm b:Nat):Obj->Prop
 | .cells _ t _=>nM t=false/\t≠kJ
 | .map _ _=>b≠cm
 |_=>True
structure KQ (cm:Nat)(w w':World):Prop where
 same:∀(b:Nat) (o:Obj),w.heap[b]?=some o->AG cm b o->w'.heap[b]?=some o
 size:w.heap.size<=w'
theorem KQ.refl (cm:Nat)(w:World):KQ cm w w:=⟨λ_ _ h _=>h,ae _⟩
theorem KQ.trans {b c:World}(h:KQ e a b)(k:KQ e b c):KQ e a c:=⟨λx o cm d=>k.same x o (h.same x o cm d) d,nt h.size k.size⟩
theorem KQ.below {cm:Nat}{w w':World}(h:Below w w w'):KQ cm w w':=⟨λb o a _=>(h.block b (mq.1 a).1).trans a,h.size⟩
theorem KQ.row {w':World}{row:Option Nat}(d:a.grownBy w' row)(f:∀g,row=some g->∃o,a.heap[g]?=some o/\¬AG e g o):KQ e a w':=
 ⟨λb o c h=>(d.block b (mq.1 c).1 λw=>by
  obtain⟨j,cm,i⟩:=f b w.symm;rw[c]at cm;injection cm with cm
  subst cm;exact i h).trans c,d.size⟩
theorem KQ.live {w':World}(h:Live a t V){i:Nat}(hi:i<15)(cm:a.grownBy w' (V i).v.ownBlock):KQ e a w':=
 KQ.row cm λg w=>by
  obtain⟨b,c⟩:=dY (h.own i hi) w;exact⟨_,c,λd=>by
   have:=d.1;rw[yN]at this;cases this⟩
theorem KQ.par {p:Nat}(h:Bk a p kJ d)(j:Nat)(u:Value):KQ e a (a.setCell (p,j) u):=
 KQ.row (fZ a (p,j) u) λg b=>by
  injection b with b
  subst b;exact⟨_,h,λcm=>cm.2 rfl⟩
theorem KQ.rS {w':World}(h:KQ e a w'){n k:Nat}(c:i7 a u A n k f)(d:nM u=false)(w:u≠kJ):i7 w' u A n k f:=
 ⟨c.1,λg=>by
  obtain⟨b,o,t,cm,i,j⟩:=c.2 g;exact⟨b,o,t,cm,h.same b _ i ⟨d,w⟩,j⟩⟩
theorem KQ.bk {w':World}(h:KQ e a w')(g:Bk a t u d)(b:nM u=false)(c:u≠kJ):Bk w' t u d:=h.same t _ g ⟨b,c⟩
def iS (w:World)(Bd p gm cm:Nat)(gl:Gl)(K:Nat)(r:mA)(e:Ending)(w':World):Prop:=
 Below Bd w w'/\match r with
  | .ok s'=>e=.returned (.int .i64 0)/\KQ cm w w'/\∃a,ie w' Bd p gm cm gl s' a K
  | .error c=>e=.returned (.int .i64 c)
theorem iS.bad {w':World}{p:Nat}{c:Int}(gl:r=.error c)(w:Below e a w'):iS a e p t b U o r (.returned (.int .i64 c)) w':=by subst gl;exact⟨w,rfl⟩
theorem iS.O {w':World}{p:Nat}{s':PS}{rv':Rows}(gl:r=.ok s')(w:Below e a w')(c:KQ b a w')(h:ie w' e p t b U s' rv' o):iS a e p t b U o r (.returned (.int .i64 0)) w':=by subst gl;exact⟨w,rfl,c,rv',h⟩
theorem iS.fin {w':World}{p:Nat}{s':PS}{gl:Int}(cm:r=fin gl s')(c:Below e a w')(d:KQ b a w')(h:ie w' e p t b U s' V o):iS a e p t b U o r (.returned (.int .i64 gl)) w':=by
 unfold Proofs.YtalehhjjbadlpaaGreatDoor.fin at cm;split at cm
 .rename_i w;subst w;exact iS.O cm c d h
 exact iS.bad cm c
theorem jh (E:mh e t b)(G:TypeId)(C:World)(D n c:Nat)(A:Option Addr)(F:List Value)(a:Array Value)(m:a.size=b)(d:C.ownsRow D e b (A n c) n F)(o:∀u∈a.toList,u.oneCell'=true)(y:n<=10000000000)(z:D<=C):
  ∃f h w',(Builtin.append_ #[t,t] G #[A n c,.slice (C,0) 1 1]).run Tryz.prog ((C.alloc (.cells a e)).drew)=.ok (.slice f (n+1) h) w'/\w'.ownsRow D e b (.slice f (n+1) h) (n+1) (F++a.toList)/\C.grownBy w' (Value.slice A n c).ownBlock/\Loc C (A n c) (.slice f (n+1) h):=by
 obtain⟨f,h,w',j,q,k,r⟩:=wP E G ((C.alloc (.cells a e)).drew) D n c A F (d.alloc _).drew (C.heap.size+1) (C,0) 1 1 a.toList (Rd.drew (Rd.newAt _ _ rfl a e 1 b (by omega))) o (by omega) (by simp;omega);refine⟨f,h,w',j,q,⟨k.os,k.tape,k.output,nt (by simp) k.size,λi hi l=> ?_⟩,r.imp id λv g x=>by have:=v g x;simp at this;omega⟩;exact(k.block i (by simp;omega) l).trans (Below.heap_alloc _ _ _ hi)
theorem JX (E:mh e t o)(v:TypeId)(b:World)(l n c:Nat)(A:Option Addr)(r:List Value)(Bd:Nat)(q:Option Addr)(m c2:Nat)(a:List Value)(d:b.ownsRow l e o (A n c) n r)(h:Rd b Bd q m o a)(i:∀u∈a,u.oneCell'=true)(j:n+m<=100000000000)(k:l<=b):
  ∃f g w',(Builtin.append_ #[t,t] v #[A n c,q m c2]).run Tryz.prog b=.ok (.slice f (n+m) g) w'/\w'.ownsRow l e o (.slice f (n+m) g) (n+m) (r++a)/\b.grownBy w' (Value.slice A n c).ownBlock/\Loc b (A n c) (.slice f (n+m) g):=
 wP E v b l n c A r d Bd q m c2 a h i j k
section
variable {w w2:World} {Bd p gm cm:Nat} {gl:Gl} {s s':PS} {rv:Rows} {K:Nat}
theorem tY (h:∀j,j<15->(rv j).n<=K){i:Nat}{r:RV}{e:Nat}(b:K<=e)(c:r.n<=e):∀j,j<15->(iK rv i r j).n<=e:=by
 intro j d;by_cases a:j=i
 .subst a;rw[ke];exact c
 rw[iC _ _ a];exact nt (h j d) b
theorem ie.push (h:ie w Bd p gm cm gl s rv K){i:Nat}(hi:i<15){b:Value}{c:Nat}{a:List Value}(e:w.grownBy w2 (rv i).v.ownBlock)(k:w2.ownsRow Bd (kT i) (kS i) b c a)(l:Loc w (rv i).v b)
  (m:FD w2 (Fz w2 (iK rv i ⟨b,c,a⟩)) (iK rv i ⟨b,c,a⟩) s'.f) (n:s'.ia=s.ia) {j:Nat} (d:(eQ s rv gm cm).setIfInBounds j b=eQ s' (iK rv i ⟨b,c,a⟩) gm cm) {z:Nat} (o:K<=z) (q:c<=z):
  ie (w2.setCell (p,j) b) Bd p gm cm gl s' (iK rv i ⟨b,c,a⟩) z/\KQ cm w (w2.setCell (p,j) b):=by
 obtain⟨g,t,y,u,x⟩:=h.row hi (r:=⟨b,c,a⟩) e k l;refine⟨ie.tO g t m u h.m (by rw[n];exact x) (tY h.i o q) h.low j b d,(KQ.live h.live hi e).trans (KQ.par g j b)⟩
theorem ie.qD (h:ie w Bd p gm cm gl s rv K){i:Nat}(hi:i<15)(a:w.grownBy w2 (rv i).v.ownBlock)(j:Nat)(u:Value)(b:Bd<=w):Below Bd w (w2.setCell (p,j) u):=by refine((gD Bd w).grown a b (λg e=>((h.live.own i hi).lt g e).1)).setCell ?_ _;exact h.low.1
theorem ie.slice (h:ie w Bd p gm cm gl s rv K){i:Nat}(hi:i<15):∃A c,(rv i).v=.slice A (rv i).n c:=mP (h.live.own i hi)
theorem ie.size (h:ie w Bd p gm cm gl s rv K):Bd<=w.heap.size:=by have:=h.par.lt;have:=h.low.1;omega
end
def Lw (w:World):Bs:=λb=>b<w.heap.size
theorem Sl.lw {R:Rel α}(c:R.Ok){w':World}{f:List α}(h:Sl R e a (Lw a) A f)(d:Below a.heap.size a w'):Sl R e w' (Lw w') A f:=(h.keep c (λb w=>d.block b w)).mono c (λb (w:b<_)=>mz w d.size)
theorem eY {f:α->B}{l:List α}{k:Nat}{x:α}(h:l[k]?=some x):(l.take (k+1)).flatMap f=(l.take k).flatMap f++f x:=by rw[pm,h,rj];simp
theorem Qi (f:α->B)(l:List α)(k:Nat):((l.take k).flatMap f).length<=(l.flatMap f).length:=by
 conv=>rhs;rw[<-rA k l]
 rw[rj,la];omega
theorem iR {f:α->B}{l:List α}{k:Nat}{x:α}(h:l[k]?=some x):((l.take k).flatMap f).length+(f x).length<=(l.flatMap f).length:=by have:=Qi f l (k+1);rw[eY h,la]at this;omega
theorem Y7 (a b:B)(h:a.length+b.length<=100000000000000)(w':World):(Op.stringOp .add ⟨a.toArray⟩ ⟨b.toArray⟩).run Tryz.prog w'=.ok (.string ⟨(a++b).toArray⟩) w':=by rw[run_string_add_sum w' _ _ (by simp[ByteArray.size];omega),ByteArray.mk_append_mk]
theorem ed (a b:B)(h:a.length+b.length<=100000000000000):∃s:B,Hid (s=a++b)/\(∀w',(Op.stringOp .add ⟨a.toArray⟩ ⟨b.toArray⟩).run Tryz.prog w'=.ok (.string ⟨s.toArray⟩) w')/\s.length<=a.length+b.length:=⟨_,J rfl,Y7 a b h,by rw[la];exact ae _⟩
theorem xb (a:B)(b:UInt8)(h:a.length+1<=100000000000000):∃s:B,Hid (s=a++[b])/\(∀w',(Op.stringOp .add ⟨a.toArray⟩ ⟨#[b]⟩).run Tryz.prog w'=.ok (.string ⟨s.toArray⟩) w')/\s.length<=a.length+1:=⟨_,J rfl,Y7 a [b] h,by simp⟩
theorem gp (n:Int):1<=(ai n).length:=by unfold ai;simp
theorem Ur (l:List Int):1<=(ju l).length:=by have:=gp l.length;unfold ju;rw[la];omega
theorem Ti (i:Ins):1<=(sU i).length:=by have:=gp i.op;unfold sU;rw[la];omega
theorem OW (l:List Ins):1<=(gJ l).length:=by have:=gp l.length;unfold gJ;rw[la];omega
theorem gq (f:α->B)(h:∀x,1<=(f x).length)(l:List α):l.length<=(l.flatMap f).length:=by
 induction l with
 |nil=>simp
 |cons a r b=>have:=h a;rw[nW,la,aV];omega
theorem mM (f:α->B)(h:∀x,1<=(f x).length)(l:List α)(a:(l.flatMap f).length<=100000000000000):gN (l.length:Int):=by have:=gq f h l;exact⟨by omega,by omega⟩
theorem aU {F:Nat}{d:Array Value}{W:World}{v:Value}(h:∀w',Below W.heap.size W w'->Calls Tryz.prog F d w' λe a=>e=.returned v/\Below w'.heap.size w' a)(x:iX (λv=>Below W.heap.size W v)):
  Calls Tryz.prog F d x.w λe a=>e=.returned v/\∃y:iX (λv=>Below W.heap.size W v),a=y.w:=
 (h x.w x.ok).mono λ_ a ⟨b,c⟩=>⟨b,⟨a,x.ok.trans (c.mono x.ok.size)⟩,rfl⟩
theorem aF (h:a.cell? ⟨b,o,none⟩=some W)(x:iX (λv=>Below a.heap.size a v)):x.w.cell? ⟨b,o,none⟩=some W:=by have u:=World.block_lt_of_cell? a _ h;exact((aj x.ok).1 _ _ u).trans h
theorem Ua (A:Option Addr)(c:Nat)(l:List Ins)(h:Sl ky 2 v (Lw v) A l)(d:(gJ l).length<=100000000000000):
  Calls Tryz.prog 73 #[.slice A l.length c] v λe g=>e=.returned (.string ⟨(gJ l).toArray⟩)/\Below v.heap.size v g:=by
 have H:=J h;unfold gJ at d ⊢;rw[la]at d;have G:gN (l.length:Int):=mM sU Ti l (by omega);have P:l.length<=100000000000000:=nt (gq sU Ti l) (by omega);have m:=J (λg=>aG g (l.length:Int) G);clear h G;generalize Q:ai (l.length:Int)=D at*
 clear Q;go_enter Tryz.func73,Tryz.ntmps73
 go_wp2_with fail
 refine(m.out _).mono ?_;rintro e I ⟨rfl,j⟩;have n:=J j;have R:=J (H.out.lw ky.ok j);clear j m H;go_wp2_with fail
 go_loopw [3,4] (λs i wr=>∃k:Nat,k<=l.length/\i=.int .i64 k/\s=.string ⟨(D++(l.take k).flatMap sU).toArray⟩/\Below I.heap.size I wr) (λ_ i _=>l.length - (intOf i).toNat)
 case atStart=>exact⟨0,nz _,rfl,by simp,gD _ _⟩
 case round=>
  obtain⟨k,Y,rfl,rfl,t⟩:=hrel;have T:=n.out.size;by_cases u:k<l.length
  .obtain⟨b,o,x,rfl,-,y,aa,K,L,M⟩:=(R.out.lw ky.ok t).ins u;have z:Hid (D++(l.take (k+1)).flatMap sU=D++(l.take k).flatMap sU++ai x.op++ai x.a):=by show _=_;rw[eY y.out];simp[sU]
   have N:=iR (f:=sU) y.out;rw[sU,la]at N;have B:(D++(l.take k).flatMap sU).length+(ai x.op).length+(ai x.a).length<=100000000000000:=by rw[la];omega
   have U:=J (aU (W:=wr) (λg _=>aG g x.op L));have V:=J (aU (W:=wr) (λg _=>aG g x.a M));have Z:=aF aa;have c1:=aF K;clear y N L M aa K;generalize D++(l.take k).flatMap sU=S at*
   generalize ai x.op=p at*
   generalize ai x.a=C at*
   have r1:=Y7 S p (by omega);have q:(S++p).length+C.length<=100000000000000:=by rw[la];omega
   have r2:=Y7 (S++p) C q;generalize E:S++p++C=S2 at*
   generalize S++p=S1 at*
   have O:=J t;clear t B q E;go_wp2_with fail
   refine dB (λw=>Below wr.heap.size wr w) (by kernel_rfl) (by kernel_rfl) ((gD wr.heap.size wr).drew) ?_;have dm:Nonempty (iX (λw=>Below wr.heap.size wr w)):=⟨⟨_,((gD wr.heap.size wr).drew)⟩⟩
   repeat(go_big_quiet_step (first|with_reducible exact U.out _|with_reducible exact V.out _))
   refine wpQuiet_nil ?_;intro _ F;obtain⟨X,r⟩:=F;subst r;go_wp2_with fail
   go_roundw
   case rel=>exact⟨k+1,by omega,by simp,by rw[z.out],O.out.trans (X.ok.mono O.out.size)⟩
   case measure=>simp[intOf];omega
  obtain rfl:k=l.length:=by omega
  rw[lf];go_wp2_with fail
  go_ret
  exact⟨rfl,n.out.trans (t.mono T)⟩
theorem Ci (A:Option Addr)(c:Nat)(l:List Int)(h:Sl gS 1 v (Lw v) A l)(a:(ju l).length<=100000000000000):
  Calls Tryz.prog 72 #[.slice A l.length c] v λe q=>e=.returned (.string ⟨(ju l).toArray⟩)/\Below v.heap.size v q:=by
 have H:=J h;unfold ju at a ⊢;rw[la]at a;have z:gN (l.length:Int):=mM ai gp l (by omega);have E:l.length<=100000000000000:=nt (gq ai gp l) (by omega);have g:=J (λq=>aG q (l.length:Int) z);clear h z;generalize F:ai (l.length:Int)=D at*
 clear F;go_enter Tryz.func72,Tryz.ntmps72
 go_wp2_with fail
 refine(g.out _).mono ?_;rintro e n ⟨rfl,d⟩;have j:=J d;have G:=J (H.out.lw gS.ok d);clear d g H;go_wp2_with fail
 go_loopw [3,4] (λs i wr=>∃k:Nat,k<=l.length/\i=.int .i64 k/\s=.string ⟨(D++(l.take k).flatMap ai).toArray⟩/\Below n.heap.size n wr) (λ_ i _=>l.length - (intOf i).toNat)
 case atStart=>exact⟨0,nz _,rfl,by simp,gD _ _⟩
 case round=>
  obtain⟨k,Q,rfl,rfl,p⟩:=hrel;have I:=j.out.size;by_cases r:k<l.length
  .obtain⟨b,o,x,rfl,-,t,R,U⟩:=(G.out.lw gS.ok p).int r;have u:Hid (D++(l.take (k+1)).flatMap ai=D++(l.take k).flatMap ai++ai x):=by show _=_;rw[eY t.out];simp
   have K:=iR (f:=ai) t.out;have w:(D++(l.take k).flatMap ai).length+(ai x).length<=100000000000000:=by rw[la];omega
   have B:=J (aG wr x U);clear t K;generalize D++(l.take k).flatMap ai=S at*
   generalize ai x=L at*
   obtain⟨T,M,N,O⟩:=ed S L (by omega);have C:=J p;clear p w;go_wp2_with fail
   refine B.out.mono ?_;rintro e P ⟨rfl,m⟩;have y:Hid (Below n.heap.size n P):=J (C.out.trans (m.mono C.out.size));clear m B;go_wp2_with fail
   go_roundw
   case rel=>exact⟨k+1,by omega,by simp,by rw[u.out,M.out],y.out⟩
   case measure=>simp[intOf];omega
  obtain rfl:k=l.length:=by omega
  rw[lf];go_wp2_with fail
  go_ret
  exact⟨rfl,j.out.trans (p.mono I)⟩
theorem JQ (A:Option Addr)(c:Nat)(l:List (List Int))(h:Sl gT 1 v (Lw v) A l)(a:(mW l).length<=100000000000000):
  Calls Tryz.prog 117 #[.slice A l.length c] v λe q=>e=.returned (.string ⟨(mW l).toArray⟩)/\Below v.heap.size v q:=by
 have H:=J h;unfold mW at a ⊢;rw[la]at a;have B:gN (l.length:Int):=mM ju Ur l (by omega);have F:l.length<=100000000000000:=nt (gq ju Ur l) (by omega);have g:=J (λq=>aG q (l.length:Int) B);clear h B;generalize G:ai (l.length:Int)=D at*
 clear G;go_enter Tryz.func117,Tryz.ntmps117
 go_wp2_with fail
 refine(g.out _).mono ?_;rintro e n ⟨rfl,d⟩;have j:=J d;have I:=J (H.out.lw gT.ok d);clear d g H;go_wp2_with fail
 go_loopw [3,4] (λs i wr=>∃k:Nat,k<=l.length/\i=.int .i64 k/\s=.string ⟨(D++(l.take k).flatMap ju).toArray⟩/\Below n.heap.size n wr) (λ_ i _=>l.length - (intOf i).toNat)
 case atStart=>exact⟨0,nz _,rfl,by simp,gD _ _⟩
 case round=>
  obtain⟨k,T,rfl,rfl,p⟩:=hrel;have W:=j.out.size;by_cases r:k<l.length
  .obtain⟨b,o,x,K,L,rfl,-,t,U,M⟩:=(I.out.lw gT.ok p).row r;have u:Hid (D++(l.take (k+1)).flatMap ju=D++(l.take k).flatMap ju++ju x):=by show _=_;rw[eY t.out];simp
   have N:=iR (f:=ju) t.out;have w:(D++(l.take k).flatMap ju).length+(ju x).length<=100000000000000:=by rw[la];omega
   have C:=J (Ci wr K L x M (by omega));clear t N;generalize D++(l.take k).flatMap ju=S at*
   generalize ju x=O at*
   obtain⟨V,y,P,Q⟩:=ed S O (by omega);have E:=J p;clear p w;go_wp2_with fail
   refine C.out.mono ?_;rintro e R ⟨rfl,m⟩;have z:Hid (Below n.heap.size n R):=J (E.out.trans (m.mono E.out.size));clear m C;go_wp2_with fail
   go_roundw
   case rel=>exact⟨k+1,by omega,by simp,by rw[u.out,y.out],z.out⟩
   case measure=>simp[intOf];omega
  obtain rfl:k=l.length:=by omega
  rw[lf];go_wp2_with fail
  go_ret
  exact⟨rfl,j.out.trans (p.mono W)⟩
theorem ld.app {R:Rel α}{S:Bs}{r:RV}{g w:List α}{n:Nat}(h:ld R e a S r g)(v:n=r.n+t)(b:t=w.length)(c:Fl R e a S f w):ld R e a S ⟨W,n,r.xs++f⟩ (g++w):=⟨by simp[v,b,h.1],h.2.append c⟩
section
variable {w w2:World} {Bd p gm cm:Nat} {gl:Gl} {s:PS} {rv:Rows} {K:Nat}
theorem FD.arZ {f:iu}{r:RV}{l:List nD}(h:FD w (Fz w rv) rv f)(t:Tr w rv w2 (iK rv 1 r))(a:ld kO 2 w2 (Fz w2 (iK rv 1 r)) r l):FD w2 (Fz w2 (iK rv 1 r)) (iK rv 1 r) {f with f6:=l} :=by have k:=h.tr t;exact⟨k.gt,k.p,a,k.u,k.G,k.E,k.H,k.F,k.gP⟩
theorem ie.arn (h:ie w Bd p gm cm gl s rv K){a:Value}{m:Nat}{l:List Value}{ys:List nD}(c:w.grownBy w2 (rv 1).v.ownBlock)(g:w2.ownsRow Bd (kT 1) (kS 1) a ((rv 1).n+m) ((rv 1).xs++l))(d:Loc w (rv 1).v a)
  (j:m=ys.length) (k:Fl kO 2 w (Fz w rv) l ys) {K':Nat} (e:K+m<=K'):
  ie (w2.setCell (p,2) a) Bd p gm cm gl {s with f:= {s.f with f6:=s.f.f6++ys}} (iK rv 1 ⟨a,(rv 1).n+m,(rv 1).xs++l⟩) K'/\KQ cm w (w2.setCell (p,2) a):=by
 have b:Tr w rv w2 (iK rv 1 ⟨a,(rv 1).n+m,(rv 1).xs++l⟩):=Tr.row (by decide) c d;exact ie.push (s':= {s with f:= {s.f with f6:=s.f.f6++ys}}) h (i:=1) (by decide) c g d (h.D.arZ b ((h.D.Y.tr kO.ok b).app rfl j (b.V kO.ok k))) rfl rfl (nt (pH _ _) e) (nt (rh (h.i 1 (by decide)) m) e)
theorem FD.Ww {f:iu}{r:RV}{l:List mS}(h:FD w (Fz w rv) rv f)(t:Tr w rv w2 (iK rv 3 r))(a:ld kn 2 w2 (Fz w2 (iK rv 3 r)) r l):FD w2 (Fz w2 (iK rv 3 r)) (iK rv 3 r) {f with a':=l} :=by have k:=h.tr t;exact⟨k.gt,k.p,k.Y,k.u,a,k.E,k.H,k.F,k.gP⟩
theorem ie.art (h:ie w Bd p gm cm gl s rv K){a:Value}{m:Nat}{l:List Value}{ys:List mS}(c:w.grownBy w2 (rv 3).v.ownBlock)(g:w2.ownsRow Bd (kT 3) (kS 3) a ((rv 3).n+m) ((rv 3).xs++l))(d:Loc w (rv 3).v a)
  (j:m=ys.length) (k:Fl kn 2 w (Fz w rv) l ys) {K':Nat} (e:K+m<=K'):
  ie (w2.setCell (p,4) a) Bd p gm cm gl {s with f:= {s.f with a':=s.f.a'++ys}} (iK rv 3 ⟨a,(rv 3).n+m,(rv 3).xs++l⟩) K'/\KQ cm w (w2.setCell (p,4) a):=by
 have b:Tr w rv w2 (iK rv 3 ⟨a,(rv 3).n+m,(rv 3).xs++l⟩):=Tr.row (by decide) c d;exact ie.push (s':= {s with f:= {s.f with a':=s.f.a'++ys}}) h (i:=3) (by decide) c g d (h.D.Ww b ((h.D.G.tr kn.ok b).app rfl j (b.V kn.ok k))) rfl rfl (nt (pH _ _) e) (nt (rh (h.i 3 (by decide)) m) e)
theorem FD.arY {f:iu}{r:RV}{l:List mT}(h:FD w (Fz w rv) rv f)(t:Tr w rv w2 (iK rv 4 r))(a:ld kI 4 w2 (Fz w2 (iK rv 4 r)) r l):FD w2 (Fz w2 (iK rv 4 r)) (iK rv 4 r) {f with gM:=l} :=by have k:=h.tr t;exact⟨k.gt,k.p,k.Y,k.u,k.G,a,k.H,k.F,k.gP⟩
theorem ie.arl (h:ie w Bd p gm cm gl s rv K){a:Value}{m:Nat}{l:List Value}{ys:List mT}(c:w.grownBy w2 (rv 4).v.ownBlock)(g:w2.ownsRow Bd (kT 4) (kS 4) a ((rv 4).n+m) ((rv 4).xs++l))(d:Loc w (rv 4).v a)
  (j:m=ys.length) (k:Fl kI 4 w (Fz w rv) l ys) {K':Nat} (e:K+m<=K'):
  ie (w2.setCell (p,5) a) Bd p gm cm gl {s with f:= {s.f with gM:=s.f.gM++ys}} (iK rv 4 ⟨a,(rv 4).n+m,(rv 4).xs++l⟩) K'/\KQ cm w (w2.setCell (p,5) a):=by
 have b:Tr w rv w2 (iK rv 4 ⟨a,(rv 4).n+m,(rv 4).xs++l⟩):=Tr.row (by decide) c d;exact ie.push (s':= {s with f:= {s.f with gM:=s.f.gM++ys}}) h (i:=4) (by decide) c g d (h.D.arY b ((h.D.E.tr kI.ok b).app rfl j (b.V kI.ok k))) rfl rfl (nt (pH _ _) e) (nt (rh (h.i 4 (by decide)) m) e)
theorem FD.Wx {f:iu}{r:RV}{l:List Region}(h:FD w (Fz w rv) rv f)(t:Tr w rv w2 (iK rv 5 r))(a:ld ko 1 w2 (Fz w2 (iK rv 5 r)) r l):FD w2 (Fz w2 (iK rv 5 r)) (iK rv 5 r) {f with d':=l} :=by have k:=h.tr t;exact⟨k.gt,k.p,k.Y,k.u,k.G,k.E,a,k.F,k.gP⟩
theorem ie.arx (h:ie w Bd p gm cm gl s rv K){a:Value}{m:Nat}{l:List Value}{ys:List Region}(c:w.grownBy w2 (rv 5).v.ownBlock)(g:w2.ownsRow Bd (kT 5) (kS 5) a ((rv 5).n+m) ((rv 5).xs++l))(d:Loc w (rv 5).v a)
  (j:m=ys.length) (k:Fl ko 1 w (Fz w rv) l ys) {K':Nat} (e:K+m<=K'):
  ie (w2.setCell (p,6) a) Bd p gm cm gl {s with f:= {s.f with d':=s.f.d'++ys}} (iK rv 5 ⟨a,(rv 5).n+m,(rv 5).xs++l⟩) K'/\KQ cm w (w2.setCell (p,6) a):=by
 have b:Tr w rv w2 (iK rv 5 ⟨a,(rv 5).n+m,(rv 5).xs++l⟩):=Tr.row (by decide) c d;exact ie.push (s':= {s with f:= {s.f with d':=s.f.d'++ys}}) h (i:=5) (by decide) c g d (h.D.Wx b ((h.D.H.tr ko.ok b).app rfl j (b.V ko.ok k))) rfl rfl (nt (pH _ _) e) (nt (rh (h.i 5 (by decide)) m) e)
theorem FD.Wk {f:iu}{r:RV}{l:List (List Ins)}(h:FD w (Fz w rv) rv f)(t:Tr w rv w2 (iK rv 6 r))(a:ld kx 1 w2 (Fz w2 (iK rv 6 r)) r l):FD w2 (Fz w2 (iK rv 6 r)) (iK rv 6 r) {f with fY:=l} :=by have k:=h.tr t;exact⟨k.gt,k.p,k.Y,k.u,k.G,k.E,k.H,a,k.gP⟩
theorem ie.ars (h:ie w Bd p gm cm gl s rv K){a:Value}{m:Nat}{l:List Value}{ys:List (List Ins)}(c:w.grownBy w2 (rv 6).v.ownBlock)(g:w2.ownsRow Bd (kT 6) (kS 6) a ((rv 6).n+m) ((rv 6).xs++l))(d:Loc w (rv 6).v a)
  (j:m=ys.length) (k:Fl kx 1 w (Fz w rv) l ys) {K':Nat} (e:K+m<=K'):
  ie (w2.setCell (p,7) a) Bd p gm cm gl {s with f:= {s.f with fY:=s.f.fY++ys}} (iK rv 6 ⟨a,(rv 6).n+m,(rv 6).xs++l⟩) K'/\KQ cm w (w2.setCell (p,7) a):=by
 have b:Tr w rv w2 (iK rv 6 ⟨a,(rv 6).n+m,(rv 6).xs++l⟩):=Tr.row (by decide) c d;exact ie.push (s':= {s with f:= {s.f with fY:=s.f.fY++ys}}) h (i:=6) (by decide) c g d (h.D.Wk b ((h.D.F.tr kx.ok b).app rfl j (b.V kx.ok k))) rfl rfl (nt (pH _ _) e) (nt (rh (h.i 6 (by decide)) m) e)
theorem FD.V' {f:iu}{r:RV}{l:List Int}(h:FD w (Fz w rv) rv f)(t:Tr w rv w2 (iK rv 7 r))(a:ld gS 1 w2 (Fz w2 (iK rv 7 r)) r l):FD w2 (Fz w2 (iK rv 7 r)) (iK rv 7 r) {f with gP:=l} :=by have k:=h.tr t;exact⟨k.gt,k.p,k.Y,k.u,k.G,k.E,k.H,k.F,a⟩
theorem ie.aro (h:ie w Bd p gm cm gl s rv K){a:Value}{m:Nat}{l:List Value}{o:List Int}(c:w.grownBy w2 (rv 7).v.ownBlock)(g:w2.ownsRow Bd (kT 7) (kS 7) a ((rv 7).n+m) ((rv 7).xs++l))(d:Loc w (rv 7).v a)
  (j:m=o.length) (k:Fl gS 1 w (Fz w rv) l o) {K':Nat} (e:K+m<=K'):
  ie (w2.setCell (p,8) a) Bd p gm cm gl {s with f:= {s.f with gP:=s.f.gP++o}} (iK rv 7 ⟨a,(rv 7).n+m,(rv 7).xs++l⟩) K'/\KQ cm w (w2.setCell (p,8) a):=by
 have b:Tr w rv w2 (iK rv 7 ⟨a,(rv 7).n+m,(rv 7).xs++l⟩):=Tr.row (by decide) c d;exact ie.push (s':= {s with f:= {s.f with gP:=s.f.gP++o}}) h (i:=7) (by decide) c g d (h.D.V' b ((h.D.gP.tr gS.ok b).app rfl j (b.V gS.ok k))) rfl rfl (nt (pH _ _) e) (nt (rh (h.i 7 (by decide)) m) e)
end
section
attribute [-go_sem] Builtin.append_
structure lR (w:World)(A:Option Addr)(n:Nat)(ws:List P3):Prop where
 rd:i7 w 101 A n 3 (dP ws)
 len:∀x∈ws,x.2.2.length<=800000000
 i:n<=1000000000
theorem lR.length {n:Nat}(h:lR a A n q):q.length=n:=h.rd.rd.Z
theorem lR.word {n:Nat}(h:lR a A n q){k:Nat}{t:B}(c:(af q)[k]?=some t){d:Nat}(g:d=k*3):
  ∃b o,A=some ⟨b,o,none⟩/\b<a/\a.cell? ⟨b,o+d+2,none⟩=some (.string t)/\t.length<=800000000:=by
 have w:=(ll.1 c).1;rw[ji,h.length]at w;obtain⟨b,o,x,y,z,e,i,f,m,p,j⟩:=h.rd.rd.rB w;have l:z=t:=by have:=f.out;simp only[af,po,this,Option.map_some,n']at c;exact c
 subst l;subst g;exact⟨b,o,e,i,j,h.len _ (vX f)⟩
theorem Pk (t:B):N9 (aI t):=by
 unfold aI N9;split
 .rename_i h;have a:=h;rw[wM,np,pZ]at a;have e:=Xw (iJ t) (λc b=>a.1 c b);have d:(iJ t).length<=9:=by have:=a.2;simp at this;exact this.2
  have f:10 ^ (iJ t).length<=10 ^ 9:=Nat.pow_le_pow_right (by omega) d;split<;>omega
 omega
theorem N9.i64 {n:Int}(h:N9 n):gN n:=⟨by have:=h.1;omega,by have:=h.2;omega⟩
theorem dU (t:B):gN (aI t):=(Pk t).i64
theorem bu {w b:World}{c:Nat}(h:Below a a w)(d:w.grownBy b (some c))(f:a.heap.size<=c):Below a a b:=h.grown d h.size (λk e=>by cases e;exact f)
theorem dR {t:B}{l:List B}(h:af q=t::l):q.length=l.length+1:=by have:=congrArg List.length h;simpa [af]using this
theorem JT (s:PS)(l:List B)(h:l.length≠1):sG s l=.error 22:=by
 unfold sG;split
 .simp at h
 rfl
theorem Vs (Bd p U cm:Nat)(gl:Gl)(s:PS)(rv:Rows)(K:Nat)(A:Option Addr)(n c:Nat)(ws:List P3)(t:B)(l:List B)(y:ie v Bd p U cm gl s rv K)(aa:lR v A n ws)(L:af ws=t::l):
  Calls Tryz.prog 43 #[.pointer (p,0),A n c] v (iS v Bd p U cm gl (K+n) (sG s l)):=by
 have O:n=l.length+1:=by rw[<-aa.length];exact dR L
 have P:=y.size;by_cases M:l.length=1
 .obtain⟨q,rfl⟩:∃q,l=[q]:=by
   match l,M with
   |[a],_=>exact⟨a,rfl⟩
  obtain⟨b,o,rfl,hb,q1,V⟩:=aa.word (k:=1) (t:=q) (by rw[L];rfl) (d:=3) rfl;simp only[aV,ln]at O;subst O;have Y:=J y;have Z:p<v.heap.size:=y.par.lt;have W:v.cell? (p,9)=some (.bool s.gt):=y.par.cell 9;have k0:v.cell? (p,0)=some (.int .i64 s.f.gt):=y.par.cell 0;have f9:=y.par.frozen 9;have f0:=y.par.frozen 0;have E:Hid (sG s [q]=if aP 0 q≠0 then .error (aP 0 q)else if s.gt then .error 24 else .ok {s with gt:=true,f:= {s.f with gt:=aI q}}):=rfl;have C:=J (λv rb h=>eG v rb p 0 q h V);have Q:=J (dU q);clear y aa L M V;generalize aI q=R at*
  generalize aP 0 q=N at*
  by_cases he:N=0
  .subst he;cases r:s.gt with
   |true=>
    rw[r]at W;have D:Hid (sG s [q]=.error 24):=by show _=_;rw[E.out,r];rfl
    clear E r;go_enter Tryz.func43,Tryz.ntmps43
    go_wp2_with (first
     |(go_at_call 89;refine(iE v p).mono ?_;rintro e F ⟨rfl,u,m⟩;obtain⟨G,H⟩:=aj m)
     |(go_at_call 90;refine(C F _ u).mono ?_;rintro e X ⟨rfl,w,x⟩;have i:=bu m x (ae _);obtain⟨S,T⟩:=aj i;have I:=Bk.cell w 1;simp only[List.getElem?_toArray,oX,oj]at I))
    go_ret
    exact iS.bad D (i.mono P)
   |false=>
    rw[r]at W;have D:Hid (sG s [q]=.ok {s with gt:=true,f:= {s.f with gt:=R}}):=by show _=_;rw[E.out,r];rfl
    clear E r;go_enter Tryz.func43,Tryz.ntmps43
    go_wp2_with (first
     |(go_at_call 89;refine(iE v p).mono ?_;rintro e F ⟨rfl,u,m⟩;obtain⟨G,H⟩:=aj m)
     |(go_at_call 90;refine(C F _ u).mono ?_;rintro e X ⟨rfl,w,x⟩;have i:=bu m x (ae _);obtain⟨S,T⟩:=aj i;have I:=Bk.cell w 1;simp only[List.getElem?_toArray,oX,oj]at I))
    go_ret
    have g:=Y.below i;refine iS.O D (((i.mono P).setCell g.low.1 _).setCell g.low.1 _) ?_ (rv':=rv) ?_
    .exact((KQ.below i).trans (KQ.par g.par 9 _)).trans (KQ.par (g.par.set 9 _) 0 _)
    have z:=ie.tO (s':= {s with gt:=true}) (K:=K+(0+1+1)) g.par g.live g.D g.r g.m g.ia (λj hj=>nt (g.i j hj) (by omega)) g.low 9 (.bool true) rfl;exact ie.tO (s':= {s with gt:=true,f:= {s.f with gt:=R}}) z.par z.live {z.D with gt:=Q} z.r z.m z.ia z.i z.low 0 (.int .i64 R) rfl
  have D:Hid (sG s [q]=.error N):=by show _=_;rw[E.out,if_pos he]
  have e1:(N==0)=false:=by simpa using he
  have e2:(N !=0)=true:=by simpa using he
  clear E he;go_enter Tryz.func43,Tryz.ntmps43
  go_wp2_with (first
   |(go_at_call 89;refine(iE v p).mono ?_;rintro e F ⟨rfl,u,m⟩;obtain⟨G,H⟩:=aj m)
   |(go_at_call 90;refine(C F _ u).mono ?_;rintro e X ⟨rfl,w,x⟩;have i:=bu m x (ae _);have I:=Bk.cell w 1;simp only[List.getElem?_toArray,oX,oj]at I))
  go_ret
  exact iS.bad D (i.mono P)
 have D:=J (JT s l M);have e1:((n:Int)==2)=false:=by simp;omega
 have e2:((n:Int) !=2)=true:=by simp;omega
 clear y aa L M O;go_enter Tryz.func43,Tryz.ntmps43
 go_wp2;go_ret
 exact iS.bad D (gD _ _)
end
theorem Xb (p:Pt):1<=(ug p).length:=by have:=gp p.x;unfold ug;rw[la];omega
theorem Po (p:Part):1<=(jY p).length:=by have:=gp p.z;unfold jY;rw[la];omega
theorem OQ (p:ml):1<=(jS p).length:=by have:=gp p.gd;unfold jS;rw[la];omega
theorem RF (p:Delta):1<=(nS p).length:=by have:=gp p.region;unfold nS;rw[la];omega
theorem Cq (g:hU)(A3 A4 A5 A6 A7 A8:Option Addr)(d3 d4 d5 d6 d7 d8:Nat)(T:gN g.gL)(h3:Sl lr 3 v (Lw v) A3 g.gk)(h4:Sl gS 1 v (Lw v) A4 g.gO)(h5:Sl lS 3 v (Lw v) A5 g.gi)(h6:Sl mc 4 v (Lw v) A6 g.gh)(h7:Sl md 4 v (Lw v) A7 g.gx)(h8:Sl ky 2 v (Lw v) A8 g.gR)(ab:(fH g).length<=100000000000000):
  Calls Tryz.prog 70 #[.agg #[.string ⟨g.gn.toArray⟩,.int .i64 g.gL,.bool g.i6,.slice A3 g.gk.length d3,.slice A4 g.gO.length d4,.slice A5 g.gi.length d5,.slice A6 g.gh.length d6,.slice A7 g.gx.length d7,.slice A8 g.gR.length d8]] v λe d=>e=.returned (.string ⟨(fH g).toArray⟩)/\Below v.heap.size v d:=by
 obtain⟨Z,S,mk,l,r,a,z,m,gR⟩:=g;have ao:fH ⟨Z,S,mk,l,r,a,z,m,gR⟩=ai (Z.length:Int)++Z++[32]++ai S++zX mk++ai (l.length:Int)++l.flatMap ug++ju r++ai (a.length:Int)++a.flatMap jY++ai (z.length:Int)++z.flatMap jS++ai (m.length:Int)++m.flatMap nS++gJ gR:=by simp[fH,vC,xf,TZ,Q5,XX]
 rw[ao]at ab ⊢;clear ao;simp only[la,aV,ln]at ab;simp only at T h3 h4 h5 h6 h7 h8 ⊢;have n0:gN (Z.length:Int):=⟨by omega,by omega⟩
 have n3:gN (l.length:Int):=mM ug Xb l (by omega);have cc:l.length<=100000000000000:=nt (gq ug Xb l) (by omega);have n5:gN (a.length:Int):=mM jY Po a (by omega);have cd:a.length<=100000000000000:=nt (gq jY Po a) (by omega);have n6:gN (z.length:Int):=mM jS OQ z (by omega);have ce:z.length<=100000000000000:=nt (gq jS OQ z) (by omega);have n7:gN (m.length:Int):=mM nS RF m (by omega);have cf:m.length<=100000000000000:=nt (gq nS RF m) (by omega);have H3:=J h3;have H4:=J h4;have H5:=J h5;have H6:=J h6;have H7:=J h7;have H8:=J h8;have HE:=J (show(ju r).length<=100000000000000 by omega);have HC:=J (show(gJ gR).length<=100000000000000 by omega);have aE:=J (λd=>aG d _ n0);have aL:=J (λd=>aG d _ T);have aM:=J (λd=>aG d _ n3);have aN:=J (λd=>aG d _ n5);have aQ:=J (λd=>aG d _ n6);have aR:=J (λd=>aG d _ n7);have HY:=J (λd=>UT d mk);have HR:=J (λd c A (h:Sl gS 1 d (Lw d) A r)=>Ci d A c r h HE.out);have HP:=J (λd c A (h:Sl ky 2 d (Lw d) A gR)=>Ua d A c gR h HC.out);clear h3 h4 h5 h6 h7 h8 n0 T n3 n5 n6 n7 HE HC;generalize ai (Z.length:Int)=D0 at*
 generalize ai S=D1 at*
 generalize zX mk=Y at*
 generalize ai (l.length:Int)=D2 at*
 generalize ju r=E at*
 generalize ai (a.length:Int)=D3 at*
 generalize ai (z.length:Int)=D4 at*
 generalize ai (m.length:Int)=D5 at*
 generalize gJ gR=H at*
 go_enter Tryz.func70,Tryz.ntmps70
 go_wp2_with fail
 obtain⟨j,aa⟩:∃j,v.alloc (.cells #[.string ⟨Z.toArray⟩,.int .i64 S,.bool mk,.slice A3 l.length d3,.slice A4 r.length d4,.slice A5 a.length d5,.slice A6 z.length d6,.slice A7 m.length d7,.slice A8 gR.length d8] 52)=j:=⟨_,rfl⟩
 rw[aa];have HW:Hid (Below v.heap.size v j):=by rw[<-aa];exact J ((gD _ _).alloc (ae _) _)
 have L:Hid (Bk j v.heap.size 52 #[.string ⟨Z.toArray⟩,.int .i64 S,.bool mk,.slice A3 l.length d3,.slice A4 r.length d4,.slice A5 a.length d5,.slice A6 z.length d6,.slice A7 m.length d7,.slice A8 gR.length d8]):=by rw[<-aa];exact J (Bk.new _ _ _)
 have X:v.heap.size<j.heap.size:=L.out.lt;clear aa;replace H3:=J (H3.out.lw lr.ok HW.out);replace H4:=J (H4.out.lw gS.ok HW.out);replace H5:=J (H5.out.lw lS.ok HW.out);replace H6:=J (H6.out.lw mc.ok HW.out);replace H7:=J (H7.out.lw md.ok HW.out);replace H8:=J (H8.out.lw ky.ok HW.out);have x0:∀n:iX (λw=>Below j.heap.size j w),n.w.cell? ⟨v.heap.size,0,none⟩=some (.string ⟨Z.toArray⟩):=aF (L.out.cell 0);have x1:∀n:iX (λw=>Below j.heap.size j w),n.w.cell? ⟨v.heap.size,1,none⟩=some (.int .i64 S):=aF (L.out.cell 1);have x2:∀n:iX (λw=>Below j.heap.size j w),n.w.cell? ⟨v.heap.size,2,none⟩=some (.bool mk):=aF (L.out.cell 2);have x3:∀n:iX (λw=>Below j.heap.size j w),n.w.cell? ⟨v.heap.size,3,none⟩=some (.slice A3 l.length d3):=aF (L.out.cell 3);obtain⟨S3,aW,a0,cg⟩:=ed D0 Z (by omega);obtain⟨S4,a1,a2,ch⟩:=xb S3 32 (by omega);obtain⟨S5,KL,a3,ci⟩:=ed S4 D1 (by omega);obtain⟨S6,a4,a5,cj⟩:=ed S5 Y (by omega);obtain⟨S7,a6,a7,ck⟩:=ed S6 D2 (by omega);have EK:=J (aU (W:=j) (λd _=>aE.out d));have EL:=J (aU (W:=j) (λd _=>aL.out d));have ap:=J (aU (W:=j) (λd _=>aM.out d));have aq:=J (aU (W:=j) (λd _=>HY.out d));refine dB (λw=>Below j.heap.size j w) (by kernel_rfl) (by kernel_rfl) ((gD j.heap.size j).drew) ?_;have dm:Nonempty (iX (λw=>Below j.heap.size j w)):=⟨⟨_,((gD j.heap.size j).drew)⟩⟩
 repeat(go_big_quiet_step (first|with_reducible exact EK.out _|with_reducible exact EL.out _|with_reducible exact aq.out _|with_reducible exact ap.out _))
 refine wpQuiet_nil ?_;intro _ u;obtain⟨B,p⟩:=u;subst p;have a8:Hid (Below j.heap.size j B.w):=J B.ok;generalize B.w=wa at*
 clear x0 x1 x2 x3 EK EL ap aq dm a0 a2 a3 a5 a7;go_wp2_with fail
 go_loopw [3,4] (λs i wr=>∃k:Nat,k<=l.length/\i=.int .i64 k/\s=.string ⟨(S7++(l.take k).flatMap ug).toArray⟩/\Below j.heap.size j wr) (λ_ i _=>l.length - (intOf i).toNat)
 case atStart=>exact⟨0,nz _,rfl,by simp,a8.out⟩
 case round=>
  obtain⟨G,rfl⟩:∃x,x=wr:=⟨_,rfl⟩
  obtain⟨k,hk,rfl,rfl,b2⟩:=hrel;have q:=J b2;have c3:G.cell? ⟨v.heap.size,3,none⟩=some (.slice A3 l.length d3):=((aj q.out).1 _ _ X).trans (L.out.cell 3);by_cases M:k<l.length
  .
   obtain⟨b,o,x,rfl,-,N,q0,q1,q2,i0,T⟩:=(H3.out.lw lr.ok b2).pt M;have O:Hid (S7++(l.take (k+1)).flatMap ug=S7++(l.take k).flatMap ug++ai x.x++ai x.y++zX x.on):=by show _=_;rw[eY N.out];simp[ug]
   have U:=iR (f:=ug) N.out;simp only[ug,la,aV,ln]at U;have P:(S7++(l.take k).flatMap ug).length<=S7.length+((l.take k).flatMap ug).length:=nV _ _;clear N b2;go_wp2_with fail
   obtain⟨I,t⟩:∃W2,G.alloc (.cells #[.int .i64 x.x,.int .i64 x.y,.bool x.on] 196)=W2:=⟨_,rfl⟩
   rw[t];have ar:Hid (Below j.heap.size j I):=by rw[<-t];exact J (q.out.alloc q.out.size _)
   have K:Bk I G.heap.size 196 #[.int .i64 x.x,.int .i64 x.y,.bool x.on]:=by rw[<-t];exact Bk.new _ _ _
   clear t;have x0:∀n:iX (λw=>Below I.heap.size I w),n.w.cell? ⟨G.heap.size,0,none⟩=some (.int .i64 x.x):=aF (K.cell 0);have x1:∀n:iX (λw=>Below I.heap.size I w),n.w.cell? ⟨G.heap.size,1,none⟩=some (.int .i64 x.y):=aF (K.cell 1);have x2:∀n:iX (λw=>Below I.heap.size I w),n.w.cell? ⟨G.heap.size,2,none⟩=some (.bool x.on):=aF (K.cell 2);clear K;have ut:=J (aU (W:=I) (λd _=>aG d (x.x) i0));have Q:=J (aU (W:=I) (λd _=>aG d (x.y) T));have R:=J (aU (W:=I) (λd _=>UT d x.on));generalize S7++(l.take k).flatMap ug=a9 at*
   generalize ai x.x=D0 at*
   generalize ai x.y=D1 at*
   generalize zX x.on=D2 at*
   obtain⟨ba,bb,cl,cm⟩:=ed a9 D0 (by omega);obtain⟨bc,bd,cn,co⟩:=ed ba D1 (by omega);obtain⟨cp,bf,cq,cr⟩:=ed bc D2 (by omega);clear U P;refine dB (λw=>Below I.heap.size I w) (by kernel_rfl) (by kernel_rfl) ((gD I.heap.size I).drew) ?_;have dm:Nonempty (iX (λw=>Below I.heap.size I w)):=⟨⟨_,((gD I.heap.size I).drew)⟩⟩
   repeat(go_big_quiet_step (first|with_reducible exact ut.out _|with_reducible exact Q.out _|with_reducible exact R.out _))
   refine wpQuiet_nil ?_;intro _ u;obtain⟨B,p⟩:=u;subst p;have qJ:Hid (Below j.heap.size j B.w):=J (ar.out.trans (B.ok.mono ar.out.size));generalize B.w=wz at*
   go_wp2_with fail
   go_roundw
   case rel=>exact⟨k+1,by omega,by simp,by rw[O.out,bf.out,bd.out,bb.out],qJ.out⟩
   case measure=>simp[intOf];omega
  obtain rfl:k=l.length:=by omega
  rw[lf];have cs:(S7++l.flatMap ug).length<=S7.length+(l.flatMap ug).length:=nV _ _;generalize ac:S7++l.flatMap ug=bg at*
  have bh:=J ac.symm;clear ac;have x4:∀n:iX (λw=>Below G.heap.size G w),n.w.cell? ⟨v.heap.size,4,none⟩=some (.slice A4 r.length d4):=aF (((aj q.out).1 _ _ X).trans (L.out.cell 4));have x5:∀n:iX (λw=>Below G.heap.size G w),n.w.cell? ⟨v.heap.size,5,none⟩=some (.slice A5 a.length d5):=aF (((aj q.out).1 _ _ X).trans (L.out.cell 5));have Z9:=J (aU (W:=G) (λd u=>HR.out d d4 A4 ((H4.out.lw gS.ok q.out).lw gS.ok u)));have av:=J (aU (W:=G) (λd _=>aN.out d));obtain⟨bj,bk,bl,ct⟩:=ed bg E (by omega);obtain⟨KU,bm,bn,cu⟩:=ed bj D3 (by omega);go_wp2_with fail
  refine dB (λw=>Below G.heap.size G w) (by kernel_rfl) (by kernel_rfl) ((gD G.heap.size G).drew) ?_;have dm:Nonempty (iX (λw=>Below G.heap.size G w)):=⟨⟨_,((gD G.heap.size G).drew)⟩⟩
  repeat(go_big_quiet_step (first|with_reducible exact Z9.out _|with_reducible exact av.out _))
  refine wpQuiet_nil ?_;intro _ u;obtain⟨B,p⟩:=u;subst p;have bo:Hid (Below j.heap.size j B.w):=J (q.out.trans (B.ok.mono q.out.size));generalize B.w=cb at*
  clear x4 x5 Z9 av dm bl bn q b2;go_wp2_with fail
  go_loopw [3,6] (λs i wr=>∃k:Nat,k<=a.length/\i=.int .i64 k/\s=.string ⟨(KU++(a.take k).flatMap jY).toArray⟩/\Below j.heap.size j wr) (λ_ i _=>a.length - (intOf i).toNat)
  case atStart=>exact⟨0,nz _,rfl,by simp,bo.out⟩
  case round=>
   obtain⟨F,rfl⟩:∃x,x=wr:=⟨_,rfl⟩
   obtain⟨k,hk,rfl,rfl,b2⟩:=hrel;have q:=J b2;have c5:F.cell? ⟨v.heap.size,5,none⟩=some (.slice A5 a.length d5):=((aj q.out).1 _ _ X).trans (L.out.cell 5);by_cases M:k<a.length
   .
    obtain⟨b,o,x,rfl,-,N,q0,q1,q2,i0,T,i2⟩:=(H5.out.lw lS.ok b2).part M;have O:Hid (KU++(a.take (k+1)).flatMap jY=KU++(a.take k).flatMap jY++ai x.z++ai x.x++ai x.y):=by show _=_;rw[eY N.out];simp[jY]
    have U:=iR (f:=jY) N.out;simp only[jY,la,aV,ln]at U;have P:(KU++(a.take k).flatMap jY).length<=KU.length+((a.take k).flatMap jY).length:=nV _ _;clear N;have xc:∀n:iX (λw=>Below F.heap.size F w),n.w.cell? ⟨v.heap.size,5,none⟩=some (.slice (some ⟨b,o,none⟩) a.length d5):=aF c5;have cv:∀n:iX (λw=>Below F.heap.size F w),n.w.cell? ⟨b,o+k*3,none⟩=some (.int .i64 x.z):=aF q0;have cw:∀n:iX (λw=>Below F.heap.size F w),n.w.cell? ⟨b,o+k*3+1,none⟩=some (.int .i64 x.x):=aF q1;have cx:∀n:iX (λw=>Below F.heap.size F w),n.w.cell? ⟨b,o+k*3+2,none⟩=some (.int .i64 x.y):=aF q2;have ut:=J (aU (W:=F) (λd _=>aG d (x.z) i0));have Q:=J (aU (W:=F) (λd _=>aG d (x.x) T));have R:=J (aU (W:=F) (λd _=>aG d (x.y) i2));generalize KU++(a.take k).flatMap jY=bp at*
    generalize ai x.z=D0 at*
    generalize ai x.x=D1 at*
    generalize ai x.y=D2 at*
    obtain⟨bq,br,cy,cz⟩:=ed bp D0 (by omega);obtain⟨bs,bv,cA,cB⟩:=ed bq D1 (by omega);obtain⟨cC,bw,cD,cE⟩:=ed bs D2 (by omega);clear U P b2 q0 q1 q2;go_wp2_with fail
    refine dB (λw=>Below F.heap.size F w) (by kernel_rfl) (by kernel_rfl) ((gD F.heap.size F).drew) ?_;have dm:Nonempty (iX (λw=>Below F.heap.size F w)):=⟨⟨_,((gD F.heap.size F).drew)⟩⟩
    repeat(go_big_quiet_step (first|with_reducible exact ut.out _|with_reducible exact Q.out _|with_reducible exact R.out _))
    refine wpQuiet_nil ?_;intro _ u;obtain⟨B,p⟩:=u;subst p;have qJ:Hid (Below j.heap.size j B.w):=J (q.out.trans (B.ok.mono q.out.size));generalize B.w=wz at*
    go_wp2_with fail
    go_roundw
    case rel=>exact⟨k+1,by omega,by simp,by rw[O.out,bw.out,bv.out,br.out],qJ.out⟩
    case measure=>simp[intOf];omega
   obtain rfl:k=a.length:=by omega
   rw[lf];have cF:(KU++a.flatMap jY).length<=KU.length+(a.flatMap jY).length:=nV _ _;generalize ad:KU++a.flatMap jY=bx at*
   have bz:=J ad.symm;clear ad;have c6:F.cell? ⟨v.heap.size,6,none⟩=some (.slice A6 z.length d6):=((aj q.out).1 _ _ X).trans (L.out.cell 6);obtain⟨KW,bA,cG,cH⟩:=ed bx D4 (by omega);go_wp2_with fail
   refine(aQ.out _).mono ?_;rintro e bB ⟨rfl,V⟩;have bE:Hid (Below j.heap.size j bB):=J (q.out.trans (V.mono q.out.size));clear V c6 q b2;go_wp2_with fail
   go_loopw [3,7] (λs i wr=>∃k:Nat,k<=z.length/\i=.int .i64 k/\s=.string ⟨(KW++(z.take k).flatMap jS).toArray⟩/\Below j.heap.size j wr) (λ_ i _=>z.length - (intOf i).toNat)
   case atStart=>exact⟨0,nz _,rfl,by simp,bE.out⟩
   case round=>
    obtain⟨GN,rfl⟩:∃x,x=wr:=⟨_,rfl⟩
    obtain⟨k,hk,rfl,rfl,b2⟩:=hrel;have q:=J b2;have c6:GN.cell? ⟨v.heap.size,6,none⟩=some (.slice A6 z.length d6):=((aj q.out).1 _ _ X).trans (L.out.cell 6);by_cases M:k<z.length
    .
     obtain⟨b,o,x,rfl,-,N,q0,q1,q2,q3,i0,T,i2,i3⟩:=(H6.out.lw mc.ok b2).oi M;have O:Hid (KW++(z.take (k+1)).flatMap jS=KW++(z.take k).flatMap jS++ai x.gd++ai x.ia++ai x.x++ai x.y):=by show _=_;rw[eY N.out];simp[jS]
     have U:=iR (f:=jS) N.out;simp only[jS,la,aV,ln]at U;have P:(KW++(z.take k).flatMap jS).length<=KW.length+((z.take k).flatMap jS).length:=nV _ _;clear N b2;go_wp2_with fail
     obtain⟨C,t⟩:∃W2,GN.alloc (.cells #[.int .i64 x.gd,.int .i64 x.ia,.int .i64 x.x,.int .i64 x.y] 56)=W2:=⟨_,rfl⟩
     rw[t];have aw:Hid (Below j.heap.size j C):=by rw[<-t];exact J (q.out.alloc q.out.size _)
     have K:Bk C GN.heap.size 56 #[.int .i64 x.gd,.int .i64 x.ia,.int .i64 x.x,.int .i64 x.y]:=by rw[<-t];exact Bk.new _ _ _
     clear t;have x0:∀n:iX (λw=>Below C.heap.size C w),n.w.cell? ⟨GN.heap.size,0,none⟩=some (.int .i64 x.gd):=aF (K.cell 0);have x1:∀n:iX (λw=>Below C.heap.size C w),n.w.cell? ⟨GN.heap.size,1,none⟩=some (.int .i64 x.ia):=aF (K.cell 1);have x2:∀n:iX (λw=>Below C.heap.size C w),n.w.cell? ⟨GN.heap.size,2,none⟩=some (.int .i64 x.x):=aF (K.cell 2);have x3:∀n:iX (λw=>Below C.heap.size C w),n.w.cell? ⟨GN.heap.size,3,none⟩=some (.int .i64 x.y):=aF (K.cell 3);clear K;have ut:=J (aU (W:=C) (λd _=>aG d (x.gd) i0));have Q:=J (aU (W:=C) (λd _=>aG d (x.ia) T));have R:=J (aU (W:=C) (λd _=>aG d (x.x) i2));have IZ:=J (aU (W:=C) (λd _=>aG d (x.y) i3));generalize KW++(z.take k).flatMap jS=bF at*
     generalize ai x.gd=D0 at*
     generalize ai x.ia=D1 at*
     generalize ai x.x=D2 at*
     generalize ai x.y=D3 at*
     obtain⟨bH,bK,cJ,cK⟩:=ed bF D0 (by omega);obtain⟨bL,bM,cL,cM⟩:=ed bH D1 (by omega);obtain⟨bN,bO,cN,cP⟩:=ed bL D2 (by omega);obtain⟨cQ,bP,cR,cS⟩:=ed bN D3 (by omega);clear U P;refine dB (λw=>Below C.heap.size C w) (by kernel_rfl) (by kernel_rfl) ((gD C.heap.size C).drew) ?_;have dm:Nonempty (iX (λw=>Below C.heap.size C w)):=⟨⟨_,((gD C.heap.size C).drew)⟩⟩
     repeat(go_big_quiet_step (first|with_reducible exact ut.out _|with_reducible exact Q.out _|with_reducible exact R.out _|with_reducible exact IZ.out _))
     refine wpQuiet_nil ?_;intro _ u;obtain⟨B,p⟩:=u;subst p;have qJ:Hid (Below j.heap.size j B.w):=J (aw.out.trans (B.ok.mono aw.out.size));generalize B.w=wz at*
     go_wp2_with fail
     go_roundw
     case rel=>exact⟨k+1,by omega,by simp,by rw[O.out,bP.out,bO.out,bM.out,bK.out],qJ.out⟩
     case measure=>simp[intOf];omega
    obtain rfl:k=z.length:=by omega
    rw[lf];have cT:(KW++z.flatMap jS).length<=KW.length+(z.flatMap jS).length:=nV _ _;generalize ak:KW++z.flatMap jS=bR at*
    have bS:=J ak.symm;clear ak;have c7:GN.cell? ⟨v.heap.size,7,none⟩=some (.slice A7 m.length d7):=((aj q.out).1 _ _ X).trans (L.out.cell 7);obtain⟨KX,bT,cU,cW⟩:=ed bR D5 (by omega);go_wp2_with fail
    refine(aR.out _).mono ?_;rintro e bV ⟨rfl,V⟩;have bW:Hid (Below j.heap.size j bV):=J (q.out.trans (V.mono q.out.size));clear V c7 q b2;go_wp2_with fail
    go_loopw [3,9] (λs i wr=>∃k:Nat,k<=m.length/\i=.int .i64 k/\s=.string ⟨(KX++(m.take k).flatMap nS).toArray⟩/\Below j.heap.size j wr) (λ_ i _=>m.length - (intOf i).toNat)
    case atStart=>exact⟨0,nz _,rfl,by simp,bW.out⟩
    case round=>
     obtain⟨GR,rfl⟩:∃x,x=wr:=⟨_,rfl⟩
     obtain⟨k,hk,rfl,rfl,b2⟩:=hrel;have q:=J b2;have c7:GR.cell? ⟨v.heap.size,7,none⟩=some (.slice A7 m.length d7):=((aj q.out).1 _ _ X).trans (L.out.cell 7);by_cases M:k<m.length
     .
      obtain⟨b,o,x,rfl,-,N,q0,q1,q2,q3,i0,T,i2,i3⟩:=(H7.out.lw md.ok b2).delta M;have O:Hid (KX++(m.take (k+1)).flatMap nS=KX++(m.take k).flatMap nS++ai x.region++ai x.ii++ai x.x++ai x.y):=by show _=_;rw[eY N.out];simp[nS]
      have U:=iR (f:=nS) N.out;simp only[nS,la,aV,ln]at U;have P:(KX++(m.take k).flatMap nS).length<=KX.length+((m.take k).flatMap nS).length:=nV _ _;clear N b2;go_wp2_with fail
      obtain⟨D,t⟩:∃W2,GR.alloc (.cells #[.int .i64 x.region,.int .i64 x.ii,.int .i64 x.x,.int .i64 x.y] 58)=W2:=⟨_,rfl⟩
      rw[t];have ay:Hid (Below j.heap.size j D):=by rw[<-t];exact J (q.out.alloc q.out.size _)
      have K:Bk D GR.heap.size 58 #[.int .i64 x.region,.int .i64 x.ii,.int .i64 x.x,.int .i64 x.y]:=by rw[<-t];exact Bk.new _ _ _
      clear t;have x0:∀n:iX (λw=>Below D.heap.size D w),n.w.cell? ⟨GR.heap.size,0,none⟩=some (.int .i64 x.region):=aF (K.cell 0);have x1:∀n:iX (λw=>Below D.heap.size D w),n.w.cell? ⟨GR.heap.size,1,none⟩=some (.int .i64 x.ii):=aF (K.cell 1);have x2:∀n:iX (λw=>Below D.heap.size D w),n.w.cell? ⟨GR.heap.size,2,none⟩=some (.int .i64 x.x):=aF (K.cell 2);have x3:∀n:iX (λw=>Below D.heap.size D w),n.w.cell? ⟨GR.heap.size,3,none⟩=some (.int .i64 x.y):=aF (K.cell 3);clear K;have ut:=J (aU (W:=D) (λd _=>aG d (x.region) i0));have Q:=J (aU (W:=D) (λd _=>aG d (x.ii) T));have R:=J (aU (W:=D) (λd _=>aG d (x.x) i2));have IZ:=J (aU (W:=D) (λd _=>aG d (x.y) i3));generalize KX++(m.take k).flatMap nS=bX at*
      generalize ai x.region=D0 at*
      generalize ai x.ii=D1 at*
      generalize ai x.x=D2 at*
      generalize ai x.y=D3 at*
      obtain⟨bZ,b0,cX,cY⟩:=ed bX D0 (by omega);obtain⟨b1,b3,cZ,c0⟩:=ed bZ D1 (by omega);obtain⟨b4,b5,c1,c4⟩:=ed b1 D2 (by omega);obtain⟨c9,b6,da,db⟩:=ed b4 D3 (by omega);clear U P;refine dB (λw=>Below D.heap.size D w) (by kernel_rfl) (by kernel_rfl) ((gD D.heap.size D).drew) ?_;have dm:Nonempty (iX (λw=>Below D.heap.size D w)):=⟨⟨_,((gD D.heap.size D).drew)⟩⟩
      repeat(go_big_quiet_step (first|with_reducible exact ut.out _|with_reducible exact Q.out _|with_reducible exact R.out _|with_reducible exact IZ.out _))
      refine wpQuiet_nil ?_;intro _ u;obtain⟨B,p⟩:=u;subst p;have qJ:Hid (Below j.heap.size j B.w):=J (ay.out.trans (B.ok.mono ay.out.size));generalize B.w=wz at*
      go_wp2_with fail
      go_roundw
      case rel=>exact⟨k+1,by omega,by simp,by rw[O.out,b6.out,b5.out,b3.out,b0.out],qJ.out⟩
      case measure=>simp[intOf];omega
     obtain rfl:k=m.length:=by omega
     rw[lf];have dc:(KX++m.flatMap nS).length<=KX.length+(m.flatMap nS).length:=nV _ _;generalize al:KX++m.flatMap nS=b7 at*
     have b8:=J al.symm;clear al;have r8:=((aj q.out).1 _ _ X).trans (L.out.cell 8);have c8:GR.cell? ⟨v.heap.size,8,none⟩=some (.slice A8 gR.length d8):=((aj q.out).1 _ _ X).trans (L.out.cell 8);clear r8;obtain⟨dd,b9,de,df⟩:=ed b7 H (by omega);go_wp2_with fail
     refine(HP.out _ _ _ (H8.out.lw ky.ok q.out)).mono ?_;rintro e wy ⟨rfl,aD⟩;have ca:Hid (Below j.heap.size j wy):=J (q.out.trans (aD.mono q.out.size));clear aD HP;go_wp2_with fail
     go_ret
     exact⟨by rw[b9.out,b8.out,bT.out,bS.out,bA.out,bz.out,bm.out,bk.out,bh.out,a6.out,a4.out,KL.out,a1.out,aW.out];rfl,HW.out.trans (ca.out.mono HW.out.size)⟩
theorem OV (p:Call):1<=(jU p).length:=by have:=gp p.iB;unfold jU;rw[la];omega
theorem Pz (r:k'):1<=(jJ r).length:=by have:=gp r.x;unfold jJ;simp only[la];omega
theorem Y0 (g:gH)(A2:Option Addr)(d2:Nat)(i0:gN g.gd)(bP:Sl lj 6 v (Lw v) A2 g.gC)(C:(iY g).length<=100000000000000):
  Calls Tryz.prog 71 #[.agg #[.int .i64 g.gd,.bool g.nj,.slice A2 g.gC.length d2]] v λe h=>e=.returned (.string ⟨(iY g).toArray⟩)/\Below v.heap.size v h:=by
 obtain⟨n,H,a⟩:=g;have M:iY ⟨n,H,a⟩=ai n++zX H++ai (a.length:Int)++a.flatMap jJ:=by simp[iY,Ux]
 rw[M]at C ⊢;clear M;simp only[la]at C;simp only at i0 bP ⊢;have n2:gN (a.length:Int):=mM jJ Pz a (by omega);have bl:a.length<=100000000000000:=nt (gq jJ Pz a) (by omega);have H2:=J bP;have ab:=J (λh=>aG h _ i0);have ac:=J (λh=>aG h _ n2);have HY:=J (λh=>UT h H);clear bP i0 n2;generalize ai n=D0 at*
 generalize zX H=Y at*
 generalize ai (a.length:Int)=D1 at*
 go_enter Tryz.func71,Tryz.ntmps71
 go_wp2_with fail
 obtain⟨d,u⟩:∃d,v.alloc (.cells #[.int .i64 n,.bool H,.slice A2 a.length d2] 65)=d:=⟨_,rfl⟩
 rw[u];have HW:Hid (Below v.heap.size v d):=by rw[<-u];exact J ((gD _ _).alloc (ae _) _)
 have N:Hid (Bk d v.heap.size 65 #[.int .i64 n,.bool H,.slice A2 a.length d2]):=by rw[<-u];exact J (Bk.new _ _ _)
 have z0:v.heap.size<d.heap.size:=N.out.lt;clear u;replace H2:=J (H2.out.lw lj.ok HW.out);have x0:∀m:iX (λw=>Below d.heap.size d w),m.w.cell? ⟨v.heap.size,0,none⟩=some (.int .i64 n):=aF (N.out.cell 0);have x1:∀m:iX (λw=>Below d.heap.size d w),m.w.cell? ⟨v.heap.size,1,none⟩=some (.bool H):=aF (N.out.cell 1);have x2:∀m:iX (λw=>Below d.heap.size d w),m.w.cell? ⟨v.heap.size,2,none⟩=some (.slice A2 a.length d2):=aF (N.out.cell 2);obtain⟨ad,ak,al,bm⟩:=ed D0 Y (by omega);obtain⟨z,ao,ap,bn⟩:=ed ad D1 (by omega);have EK:=J (aU (W:=d) (λh _=>ab.out h));have EL:=J (aU (W:=d) (λh _=>ac.out h));have O:=J (aU (W:=d) (λh _=>HY.out h));refine dB (λw=>Below d.heap.size d w) (by kernel_rfl) (by kernel_rfl) ((gD d.heap.size d).drew) ?_;have dm:Nonempty (iX (λw=>Below d.heap.size d w)):=⟨⟨_,((gD d.heap.size d).drew)⟩⟩
 repeat(go_big_quiet_step (first|with_reducible exact EK.out _|with_reducible exact EL.out _|with_reducible exact O.out _))
 refine wpQuiet_nil ?_;intro _ l;obtain⟨t,q⟩:=l;subst q;have aq:Hid (Below d.heap.size d t.w):=J t.ok;generalize t.w=wa at*
 clear x0 x1 x2 EK EL O dm al ap;go_wp2_with fail
 go_loopw [3,4] (λs i wr=>∃k:Nat,k<=a.length/\i=.int .i64 k/\s=.string ⟨(z++(a.take k).flatMap jJ).toArray⟩/\Below d.heap.size d wr) (λ_ i _=>a.length - (intOf i).toNat)
 case atStart=>exact⟨0,nz _,rfl,by simp,aq.out⟩
 case round=>
  obtain⟨r,rfl⟩:∃x,x=wr:=⟨_,rfl⟩
  obtain⟨k,hk,rfl,rfl,D⟩:=hrel;have HX:=J D;have c2:r.cell? ⟨v.heap.size,2,none⟩=some (.slice A2 a.length d2):=((aj HX.out).1 _ _ z0).trans (N.out.cell 2);by_cases ar:k<a.length
  .
   obtain⟨b,o,x,B0,e0,B1,e1,B2,e2,B3,e3,B4,P,rfl,-,hx,q0,q1,q2,q3,q4,q5,i5,h0,h1,bP,h3,h4⟩:=(H2.out.lw lj.ok D).X ar;have av:Hid (z++(a.take (k+1)).flatMap jJ=z++(a.take k).flatMap jJ++mW x.gE++mW x.ij++mW x.ahead++ju x.out++ai (x.gw.length:Int)++x.gw.flatMap jU++ai x.x):=by show _=_;rw[eY hx.out];simp[jJ,Lu]
   have hf:=iR (f:=jJ) hx.out;simp only[jJ,Lu,la,aV,ln]at hf;have aw:(z++(a.take k).flatMap jJ).length<=z.length+((a.take k).flatMap jJ).length:=nV _ _;have n4:gN (x.gw.length:Int):=mM jU OV x.gw (by omega);have bo:x.gw.length<=100000000000000:=nt (gq jU OV x.gw) (by omega);have Q:=J (show(mW x.gE).length<=100000000000000 by omega);have R:=J (show(mW x.ij).length<=100000000000000 by omega);have S:=J (show(mW x.ahead).length<=100000000000000 by omega);have tJ:=J (show(ju x.out).length<=100000000000000 by omega);clear hx;go_wp2_with fail
   obtain⟨c,A⟩:∃c,r.alloc (.cells #[.slice B0 x.gE.length e0,.slice B1 x.ij.length e1,.slice B2 x.ahead.length e2,.slice B3 x.out.length e3,.slice B4 x.gw.length P,.int .i64 x.x] 69)=c:=⟨_,rfl⟩
   rw[A];have K:Hid (Below r.heap.size r c):=by rw[<-A];exact J ((gD _ _).alloc (ae _) _)
   have I:Hid (Below d.heap.size d c):=J (HX.out.trans (K.out.mono HX.out.size));have E:Hid (Bk c r.heap.size 69 #[.slice B0 x.gE.length e0,.slice B1 x.ij.length e1,.slice B2 x.ahead.length e2,.slice B3 x.out.length e3,.slice B4 x.gw.length P,.int .i64 x.x]):=by rw[<-A];exact J (Bk.new _ _ _)
   have z2:r.heap.size<c.heap.size:=E.out.lt;clear A;have K0:=J (h0.lw gT.ok K.out);have K1:=J (h1.lw gT.ok K.out);have K2:=J (bP.lw gT.ok K.out);have K3:=J (h3.lw gS.ok K.out);have K4:=J (h4.lw mo.ok K.out);have I5:=J i5;clear h0 h1 bP h3 h4 i5 D q0 q1 q2 q3 q4 q5;have x0:∀m:iX (λw=>Below c.heap.size c w),m.w.cell? ⟨r.heap.size,0,none⟩=some (.slice B0 x.gE.length e0):=aF (E.out.cell 0);have x1:∀m:iX (λw=>Below c.heap.size c w),m.w.cell? ⟨r.heap.size,1,none⟩=some (.slice B1 x.ij.length e1):=aF (E.out.cell 1);have x2:∀m:iX (λw=>Below c.heap.size c w),m.w.cell? ⟨r.heap.size,2,none⟩=some (.slice B2 x.ahead.length e2):=aF (E.out.cell 2);have x3:∀m:iX (λw=>Below c.heap.size c w),m.w.cell? ⟨r.heap.size,3,none⟩=some (.slice B3 x.out.length e3):=aF (E.out.cell 3);have x4:∀m:iX (λw=>Below c.heap.size c w),m.w.cell? ⟨r.heap.size,4,none⟩=some (.slice B4 x.gw.length P):=aF (E.out.cell 4);have ut:=J (aU (W:=c) (λh l=>JQ h B0 e0 x.gE (K0.out.lw gT.ok l) Q.out));have T:=J (aU (W:=c) (λh l=>JQ h B1 e1 x.ij (K1.out.lw gT.ok l) R.out));have U:=J (aU (W:=c) (λh l=>JQ h B2 e2 x.ahead (K2.out.lw gT.ok l) S.out));have IZ:=J (aU (W:=c) (λh l=>Ci h B3 e3 x.out (K3.out.lw gS.ok l) tJ.out));have V:=J (aU (W:=c) (λh _=>aG h (x.gw.length) n4));have ZQ:=J (λh=>aG h x.x I5.out);clear n4 Q R S tJ;generalize z++(a.take k).flatMap jJ=ay at*
   generalize mW x.gE=E0 at*
   generalize mW x.ij=E1 at*
   generalize mW x.ahead=E2 at*
   generalize ju x.out=E3 at*
   generalize ai (x.gw.length:Int)=E4 at*
   generalize ai x.x=E6 at*
   obtain⟨aD,aE,aL,bp⟩:=ed ay E0 (by omega);obtain⟨aM,aN,aQ,bq⟩:=ed aD E1 (by omega);obtain⟨aR,aW,a0,br⟩:=ed aM E2 (by omega);obtain⟨a1,a2,a3,bs⟩:=ed aR E3 (by omega);obtain⟨B,a4,a5,bv⟩:=ed a1 E4 (by omega);refine dB (λw=>Below c.heap.size c w) (by kernel_rfl) (by kernel_rfl) ((gD c.heap.size c).drew) ?_;have dm:Nonempty (iX (λw=>Below c.heap.size c w)):=⟨⟨_,((gD c.heap.size c).drew)⟩⟩
   repeat(go_big_quiet_step (first|with_reducible exact ut.out _|with_reducible exact T.out _|with_reducible exact U.out _|with_reducible exact IZ.out _|with_reducible exact V.out _))
   refine wpQuiet_nil ?_;intro _ l;obtain⟨t,q⟩:=l;subst q;have a6:Hid (Below c.heap.size c t.w):=J t.ok;generalize t.w=wb at*
   clear x0 x1 x2 x3 x4 ut T U IZ V dm aL aQ a0 a3 a5;go_wp2_with fail
   go_loopw [3,6] (λs i wr=>∃j:Nat,j<=x.gw.length/\i=.int .i64 j/\s=.string ⟨(B++(x.gw.take j).flatMap jU).toArray⟩/\Below c.heap.size c wr) (λ_ i _=>x.gw.length - (intOf i).toNat)
   case atStart=>exact⟨0,nz _,rfl,by simp,a6.out⟩
   case round=>
    obtain⟨p,rfl⟩:∃x,x=wr:=⟨_,rfl⟩
    obtain⟨j,hj,rfl,rfl,D⟩:=hrel;have L:=J D;have c4:p.cell? ⟨r.heap.size,4,none⟩=some (.slice B4 x.gw.length P):=((aj L.out).1 _ _ z2).trans (E.out.cell 4);by_cases X:j<x.gw.length
    .
     obtain⟨b2,o2,y,rfl,-,hy,u0,u1,j0,j1⟩:=(K4.out.lw mo.ok D).call X;have JF:Hid (B++(x.gw.take (j+1)).flatMap jU=B++(x.gw.take j).flatMap jU++ai y.iB++ai y.lookup):=by show _=_;rw[eY hy.out];simp[jU]
     have Z:=iR (f:=jU) hy.out;simp only[jU,la]at Z;have a7:(B++(x.gw.take j).flatMap jU).length<=B.length+((x.gw.take j).flatMap jU).length:=nV _ _;clear hy;have xc:∀m:iX (λw=>Below p.heap.size p w),m.w.cell? ⟨r.heap.size,4,none⟩=some (.slice (some ⟨b2,o2,none⟩) x.gw.length P):=aF c4;have bw:∀m:iX (λw=>Below p.heap.size p w),m.w.cell? ⟨b2,o2+j*2,none⟩=some (.int .i64 y.iB):=aF u0;have bx:∀m:iX (λw=>Below p.heap.size p w),m.w.cell? ⟨b2,o2+j*2+1,none⟩=some (.int .i64 y.lookup):=aF u1;have a8:=J (aU (W:=p) (λh _=>aG h (y.iB) j0));have a9:=J (aU (W:=p) (λh _=>aG h (y.lookup) j1));generalize B++(x.gw.take j).flatMap jU=ba at*
     generalize ai y.iB=G0 at*
     generalize ai y.lookup=G1 at*
     obtain⟨bb,bc,bz,bA⟩:=ed ba G0 (by omega);obtain⟨bB,bd,bE,bF⟩:=ed bb G1 (by omega);clear Z a7 D u0 u1 j0 j1;go_wp2_with fail
     refine dB (λw=>Below p.heap.size p w) (by kernel_rfl) (by kernel_rfl) ((gD p.heap.size p).drew) ?_;have dm:Nonempty (iX (λw=>Below p.heap.size p w)):=⟨⟨_,((gD p.heap.size p).drew)⟩⟩
     repeat(go_big_quiet_step (first|with_reducible exact a8.out _|with_reducible exact a9.out _))
     refine wpQuiet_nil ?_;intro _ l;obtain⟨t,q⟩:=l;subst q;have qJ:Hid (Below c.heap.size c t.w):=J (L.out.trans (t.ok.mono L.out.size));generalize t.w=wz at*
     go_wp2_with fail
     go_roundw
     case rel=>exact⟨j+1,by omega,by simp,by rw[JF.out,bd.out,bc.out],qJ.out⟩
     case measure=>simp[intOf];omega
    obtain rfl:j=x.gw.length:=by omega
    rw[lf];have bH:(B++x.gw.flatMap jU).length<=B.length+(x.gw.flatMap jU).length:=nV _ _;generalize F:B++x.gw.flatMap jU=bf at*
    have bg:=J F.symm;clear F D;have c5:p.cell? ⟨r.heap.size,5,none⟩=some (.int .i64 x.x):=((aj L.out).1 _ _ z2).trans (E.out.cell 5);obtain⟨bK,bh,bL,bM⟩:=ed bf E6 (by omega);clear hf aw;go_wp2_with fail
    refine(ZQ.out _).mono ?_;rintro e wy ⟨rfl,aa⟩;have bj:Hid (Below d.heap.size d wy):=J (I.out.trans ((L.out.mono I.out.size).trans (aa.mono (nt I.out.size L.out.size))));clear aa;go_wp2_with fail
    go_roundw
    case rel=>exact⟨k+1,by omega,by simp,by rw[av.out,bh.out,bg.out,a4.out,a2.out,aW.out,aN.out,aE.out],bj.out⟩
    case measure=>simp[intOf];omega
  obtain rfl:k=a.length:=by omega
  rw[lf];have bN:(z++a.flatMap jJ).length<=z.length+(a.flatMap jJ).length:=nV _ _;generalize G:z++a.flatMap jJ=bO at*
  have bk:=J G.symm;clear G;go_wp2_with fail
  go_ret
  exact⟨by rw[bk.out,ao.out,ak.out];rfl,HW.out.trans (HX.out.mono HW.out.size)⟩
def iz (w:World)(P:Prop)(e:Ending)(w':World):Prop:=∃r:Int,e=.returned (.int .i64 r)/\(r=0->P)/\Below w w w'
def mK (w:World)(P:Prop)(e:Ending)(w':World):Prop:=∃b:Bool,e=.returned (.bool b)/\(b=true->P)/\Below w w w'
theorem iz.bad {w':World}(r:Int)(h:r≠0)(w:Below a a w'):iz a P (.returned (.int .i64 r)) w':=⟨r,rfl,λe=>absurd e h,w⟩
theorem iz.O {w':World}(h:P)(w:Below a a w'):iz a P (.returned (.int .i64 0)) w':=⟨0,rfl,λ_=>h,w⟩
theorem mK.bad {w':World}(w:Below a a w'):mK a P (.returned (.bool false)) w':=⟨false,rfl,(λe=>by cases e),w⟩
theorem mK.O {w':World}(h:P)(b:Bool)(w:Below a a w'):mK a P (.returned (.bool b)) w':=⟨b,rfl,λ_=>h,w⟩
def Up {α:Type}(l:List α)(k:Nat)(P:α->Prop):Prop:=∀x∈l.take k,P x
theorem Up.zero (l:List α)(P:α->Prop):Up l 0 P:=λx a=>by simp at a
theorem Up.snoc {l:List α}{k:Nat}{P:α->Prop}{y:α}(h:Up l k P)(a:l[k]?=some y)(b:P y):Up l (k+1) P:=λx hx=>by
 rw[pm,a,jp]at hx;rcases hx with hx|hx
 .exact h x hx
 simp only[Option.toList_some,js]at hx;exact hx ▸ b
theorem Up.all {l:List α}{P:α->Prop}(h:Up l l.length P):∀x∈l,P x:=λx a=>h x (by rwa [lf])
def gZ (n:Int):Bool:=decide (-16384<=n/\n<=16384)
theorem pK {n:Int}(h:gZ n=true):N9 n:=by have:=of_decide_eq_true h;unfold N9;omega
theorem dQ (n:Int):Calls Tryz.prog 84 #[n] v λe d=>e=.returned (.bool (gZ n))/\v=d:=by
 go_enter Tryz.func84,Tryz.ntmps84
 by_cases b: -16384<=n
 .by_cases c:n<=16384
  .have a:gZ n=true:=decide_eq_true ⟨b,c⟩;rw[a];go_wp2_with fail
   go_ret
   exact⟨rfl,rfl⟩
  have a:gZ n=false:=decide_eq_false λh=>c h.2
  rw[a];go_wp2_with fail
  go_ret
  exact⟨rfl,rfl⟩
 have a:gZ n=false:=decide_eq_false λh=>b h.1
 rw[a];go_wp2_with fail
 go_ret
 exact⟨rfl,rfl⟩
theorem Xc (A:Option Addr)(c:Nat)(l:List Ins)(h:Sl ky 2 v (Lw v) A l)(q:l.length<=10000000000000):Calls Tryz.prog 86 #[A l.length c] v (iz v (l.length<=200/\nI l)):=by
 have H:=J h;clear h;go_enter Tryz.func86,Tryz.ntmps86
 by_cases f:200<l.length
 .go_wp2_with fail
  go_ret
  exact iz.bad _ (by decide) (gD _ _)
 go_wp2_with fail
 go_loopw [3] (λi wr=>∃k:Nat,k<=l.length/\i=.int .i64 k/\Hid (Up l k (λi=>1<=i.op/\i.op<=39/\N9 i.a))/\v=wr) (λi _=>l.length - (intOf i).toNat)
 case atStart=>exact⟨0,by omega,rfl,J (Up.zero _ _),rfl⟩
 case round=>
  obtain⟨k,r,rfl,d,rfl⟩:=hrel;by_cases e:k<l.length
  .obtain⟨b,o,x,rfl,g,j,s,t,m,n⟩:=H.ins e;clear g m n;by_cases u:x.op<1
   .go_wp2_with fail
    go_ret
    exact iz.bad _ (by decide) (gD _ _)
   by_cases w:39<x.op
   .go_wp2_with fail
    go_ret
    exact iz.bad _ (by decide) (gD _ _)
   by_cases y:x.a< -999999999
   .go_wp2_with fail
    go_ret
    exact iz.bad _ (by decide) (gD _ _)
   by_cases z:999999999<x.a
   .go_wp2_with fail
    go_ret
    exact iz.bad _ (by decide) (gD _ _)
   have p:=J (d.snoc j ⟨by omega,by omega,by unfold N9;omega⟩);go_wp2_with fail
   go_roundw
   case rel=>exact⟨k+1,by omega,by simp,p,by trivial⟩
   case measure=>simp[intOf];omega
  obtain rfl:k=l.length:=by omega
  go_wp2_with fail
  go_ret
  exact iz.O ⟨by omega,λi hi=>d.all i hi⟩ (gD _ _)
theorem Bg (E:mh e t b)(C:TypeId)(x:World)(y n c:Nat)(A:Option Addr)(z:List Value)(a:Array Value)(m:a.size=b)(d:x.ownsRow y e b (A n c) n z)(o:∀u∈a.toList,u.oneCell'=true)(v:n<=10000000000)(w:y<=x):
  ∃f h w',(Builtin.append_ #[t,t] C #[A n c,.slice (x,0) 1 1]).run Tryz.prog (x.alloc (.cells a e))=.ok (.slice f (n+1) h) w'/\w'.ownsRow y e b (.slice f (n+1) h) (n+1) (z++a.toList)/\x.grownBy w' (Value.slice A n c).ownBlock/\Loc x (A n c) (.slice f (n+1) h):=by
 obtain⟨f,h,w',j,p,k,q⟩:=wP E C (x.alloc (.cells a e)) y n c A z (d.alloc _) (x.heap.size+1) (x,0) 1 1 a.toList (Rd.newAt _ _ rfl a e 1 b (by omega)) o (by omega) (by simp;omega);refine⟨f,h,w',j,p,⟨k.os,k.tape,k.output,nt (by simp) k.size,λi hi l=> ?_⟩,q.imp id λr g s=>by have:=r g s;simp at this;omega⟩;exact(k.block i (by simp;omega) l).trans (Below.heap_alloc _ _ _ hi)
theorem IS:(sizeOf 101).run Tryz.prog v=.ok 3 v:=by kernel_rfl
theorem Nt:(sizeOf 3).run Tryz.prog v=.ok 1 v:=by kernel_rfl
theorem Xi (a:Tryz.prog.underlying e=some (.slice t))(f:∀w,(sizeOf t).run Tryz.prog w=.ok b w)(A:Option Addr)(n c k:Nat)(z:Int)(d:z=(k:Int))(E:k<=n)(w:World):
  (Instr.slice e (A n c) (some (.int .i64 z)) none none).run Tryz.prog w=.ok (.slice (if c=k then A else A.map (·.add (k*b))) (n - k) (c - k)) w:=by
 subst d;simp[Instr.slice,Instr.sliceBounds,Instr.sliceBound,asIntOf,run_underlying a,f,Result.andThen,E]
theorem DC (f:α->List Value)(d:Nat)(b:∀x,(f x).length=d)(l:List α)(k:Nat):(l.drop k).flatMap f=(l.flatMap f).drop (k*d):=by
 induction k generalizing l with
 |zero=>simp
 |succ k c=>
  cases l with
  |nil=>simp
  |cons x r=>have a:(f x).drop ((k+1)*d)=[]:=sj (by rw[b,rF];omega);rw[List.drop_succ_cons,c,nW,List.drop_append,a,b,rF,Nat.one_mul,Nat.add_sub_cancel];rfl
theorem Hd (a:List P3)(k:Nat):dP (a.drop k)=(dP a).drop (k*3):=DC c3 3 (λ_=>rfl) a k
theorem i7.sub {n c k:Nat}(h:i7 a u A n e f)(l:k<=n)(m:n<=c):i7 a u (if c=k then A else A.map (·.add (k*e))) (n - k) e (f.drop (k*e)):=by
 refine⟨by rw[tw,h.1,Nat.sub_mul],λp=> ?_⟩;obtain⟨b,o,t,r,g,i⟩:=h.2 (by omega);rw[if_neg (by omega),r];refine⟨b,o+k*e,t,?_,g,λj w q=> ?_⟩
 .simp only[Option.map_some,Addr.add];by_cases d:k*e=0
  .rw[if_pos d,d];rfl
  rw[if_neg d]
 rw[List.getElem?_drop]at q;rw[xA];exact i _ w q
theorem lR.sub {n c:Nat}(h:lR a A n q)(d:n<=c)(k:Nat)(z:Int)(e:z=(k:Int))(g:k<=n):
  ∃b,(∀w',(Instr.slice 96 (A n c) (some (.int .i64 z)) none none).run Tryz.prog w'=.ok (.slice b (n - k) (c - k)) w')/\i7 a 101 b (n - k) 3 (dP (q.drop k))/\(∀x∈q.drop k,x.2.2.length<=800000000):=
 ⟨_,λw'=>Xi Tryz.underlying96 IS A n c k z e g w',by rw[Hd];exact h.rd.sub g d,λx f=>h.len x (List.mem_of_mem_drop f)⟩
theorem GK (a:List P3)(k:Nat):af (a.drop k)=(af a).drop k:=by simp[af,List.map_drop]
theorem kX {t:B}{l:List B}(h:af q=t::l):af (q.drop 1)=l:=by rw[GK,h];rfl
theorem Ea (a:B->Bool):q.all (λx=>a x.2.2)=(af q).all a:=by simp[af,List.all_map,Function.comp_def]
section
attribute [-go_sem] Builtin.append_
def n9 (k:Nat):Nat:=k+1
theorem Il (h:∀t n,U.lookup t=some n->n<=1000000000)(t:B):gN (gX U t):=by
 unfold gX gN;cases a:U.lookup t with
 |none=>exact⟨by decide,by decide⟩
 |some n=>have:=h t n a;simp only[Option.getD_some];exact⟨by omega,by omega⟩
theorem JE (a:Gl)(s:PS)(l:List B)(h:l.length≠2):Be a s l=.error 22:=by
 unfold Be;split
 .simp at h
 rfl
theorem Vj (Bd p gm cm:Nat)(gl:Gl)(s:PS)(rv:Rows)(K:Nat)(A:Option Addr)(n c:Nat)(ws:List P3)(t:B)(l:List B)(y:ie v Bd p gm cm gl s rv K)(Q:lR v A n ws)(S:af ws=t::l)(hK:K<=10000000000):
  Calls Tryz.prog 56 #[.pointer (p,0),A n c] v (iS v Bd p gm cm gl (K+n) (Be gl s l)):=by
 have hn:n=l.length+1:=by rw[<-Q.length];exact dR S
 have hB:=y.size;by_cases h1:l.length=2
 .obtain⟨g,j,rfl⟩:∃g j,l=[g,j]:=by
   match l,h1 with
   |[a1,a2],_=>exact⟨a1,a2,rfl⟩
  obtain⟨b,o,rfl,hb,q1,T⟩:=Q.word (k:=1) (t:=g) (by rw[S];rfl) (d:=3) rfl;obtain⟨b',o',e',-,q2,aa⟩:=Q.word (k:=2) (t:=j) (by rw[S];rfl) (d:=6) rfl;obtain⟨rfl,rfl⟩:b=b'/\o=o':=by simpa using e'
  clear e';simp only[aV,ln]at hn;subst hn;have HP:=J y;have ab:p<v.heap.size:=y.par.lt;obtain⟨A0,c0,hv⟩:=y.slice (i:=1) (by decide);have kp:v.cell? (p,2)=some (rv 1).v:=y.par.cell 2;rw[hv]at kp;have fp:=y.par.frozen 2;have ar:=y.i 1 (by decide);have HR:Hid (Be gl s [g,j]=fin (kV gl (aP 0 g) j) {s with f:= {s.f with f6:=s.f.f6++[⟨aI g,gX gl j⟩]}}):=rfl;have tK:=J (λv rb er h=>eG v rb p er g h T);have ac:=J (dU g);have uC:=J (λv rb er h hm=>Dn v rb p gm gl er j h hm);have ad:=J (Il y.m j);generalize aI g=z at*
  generalize gX gl j=E at*
  clear y Q S h1 T aa;go_enter Tryz.func56,Tryz.ntmps56
  go_wp2_with fail
  refine(iE v p).mono ?_;rintro e a ⟨rfl,G,C⟩;obtain⟨U,ak⟩:=aj C;have TV:a.cell? (b,o+3+2)=some (.string ⟨g.toArray⟩):=(U _ _ hb).trans q1;have aw:=G.lt;have al:=C.size;have aD:b<a.heap.size:=by omega
  have aE:b≠a.heap.size:=by omega
  have aL:p≠a.heap.size:=by omega
  have mg:=J (G.alloc (.cells #[.int .i64 0,.int .i64 0] 62));have ao:=J (C.alloc al (.cells #[.int .i64 0,.int .i64 0] 62));have uA:Hid (Bk (a.alloc (.cells #[.int .i64 0,.int .i64 0] 62)) a.heap.size 62 #[.int .i64 0,.int .i64 0]):=Bk.new _ _ _;clear G C;go_wp2_with fail
  refine(tK _ _ _ (by exact mg)).mono ?_;rintro e N ⟨rfl,V,H⟩;have I:=bu ao H (ae _);obtain⟨W,ap⟩:=aj I;have q:Bk N a.heap.size 62 #[.int .i64 0,.int .i64 0]:=Bk.L H uA (by omega);have FV:N.cell? (a,0)=some (.int .i64 0):=q.cell 0;have aM:N.cell? (a,1)=some (.int .i64 0):=q.cell 1;have y2:=q.frozen 0;have aQ:=q.lt;have YT:N.cell? (b,o+6+2)=some (.string ⟨j.toArray⟩):=(W _ _ hb).trans q2;have nO:Hid (i8 (N.setCell (a,0) (.int .i64 z)) v.heap.size p (aP 0 g)):=Bk.I V (by simp;omega) _;have X:=J (I.setCell (p:=(a,0)) (by simp;omega) (.int .i64 z));have lZ:Hid (Bk (N.setCell (a,0) (.int .i64 z)) a.heap.size 62 #[z,.int .i64 0]):=q.set 0 _;clear V H I q U ak;go_wp2_with fail
  refine(uC _ _ _ (by exact nO) (by exact(HP.below X).at.gm)).mono ?_;rintro e O ⟨rfl,Y,ay⟩;have L:=bu X ay (ae _);obtain⟨aR,a0⟩:=aj L;have u:Bk O a.heap.size 62 #[z,.int .i64 0]:=Bk.L ay lZ (by omega);have a3:O.cell? (a,0)=some (.int .i64 z):=u.cell 0;have JH:O.cell? (a,1)=some (.int .i64 0):=u.cell 1;have y3:=u.frozen 1;have a4:=u.lt;have ou:Hid (i8 (O.setCell (a,1) (.int .i64 E)) v.heap.size p (kV gl (aP 0 g) j)):=Bk.I Y (by simp;omega) _;have aq:=J (L.setCell (p:=(a,1)) (by simp;omega) (.int .i64 E));have lM:Hid (Bk (O.setCell (a,1) (.int .i64 E)) a.heap.size 62 #[z,E]):=u.set 1 _;clear Y ay L u W ap;go_wp2_with fail
  obtain⟨D,M⟩:∃D,O.setCell (a,1) (.int .i64 E)=D:=⟨_,rfl⟩
  rw[M];have Hr:=ou;have Z:=aq;have fU:=lM;rw[M]at Hr Z fU;have yD:D.cell? (a,0)=some (.int .i64 z):=fU.cell 0;have Am:D.cell? (a,1)=some (.int .i64 E):=fU.cell 1;have F:=HP.below Z;have Au:D.cell? (p,2)=some (A0 (rv 1).n c0):=((aj Z).1 _ _ ab).trans kp;have zp:p<D.heap.size:=F.par.lt;have zc:a.heap.size<D.heap.size:=fU.lt;have zr:v.heap.size<D.heap.size:=Hr.lt;have x:=F.live.own 1 (by decide);rw[hv]at x;obtain⟨A5,c5,w9,av,aW,P,bF⟩:=jh LK 25 D Bd _ c0 A0 _ #[z,E] rfl x (by simp[Value.oneCell']) (by omega) (by omega);rw[<-hv]at P bF;have cZ:Bk w9 p kJ (eQ s rv gm cm):=(F.row (i:=1) (by decide) (r:=⟨A5 ((rv 1).n+1) c5,_,_⟩) P aW bF).1;have kM:=Bk.grown Hr P (F.live.own 1 (by decide)) (by decide);have x9:w9.cell? (p,2)=some (rv 1).v:=cZ.cell 2;have y9:=cZ.frozen 2;have z9:w9.cell? ⟨v.heap.size,1,none⟩=some (.int .i64 (kV gl (aP 0 g) j)):=kM.cell 1;generalize a5:kV gl (aP 0 g) j=er at*
  have bZ:=J (ie.arn (m:=1) (K':=K+n9 2) F P aW bF (ys:=[⟨z,E⟩]) rfl (Fl.one (R:=kO) (⟨rfl,ac,ad⟩) rfl) (by unfold n9;simp));have jd:=J ((Z.mono hB).trans (F.qD (i:=1) (by decide) P 2 (A5 ((rv 1).n+1) c5) F.size));have HQ:=J (KQ.below (cm:=cm) Z);clear M x aW P bF cZ kM F;go_region
  all_goals
   go_wp2;go_ret
   exact iS.fin HR jd (HQ.trans bZ.2) bZ.1
 have HR:=J (JE gl s l h1);have e1:((n:Int)==3)=false:=by simp;omega
 have e2:((n:Int) !=3)=true:=by simp;omega
 clear y Q S h1 hn;go_enter Tryz.func56,Tryz.ntmps56
 go_wp2;go_ret
 exact iS.bad HR (gD _ _)
theorem JD (a:Gl)(s:PS)(l:List B)(h:l.length≠4):Bc s l=.error 22:=by
 unfold Bc;split
 .simp at h
 rfl
theorem Vh (Bd p gm cm:Nat)(gl:Gl)(s:PS)(rv:Rows)(K:Nat)(A:Option Addr)(n c:Nat)(ws:List P3)(t:B)(l:List B)(I:ie v Bd p gm cm gl s rv K)(U:lR v A n ws)(V:af ws=t::l)(hK:K<=10000000000):
  Calls Tryz.prog 44 #[.pointer (p,0),A n c] v (iS v Bd p gm cm gl (K+n) (Bc s l)):=by
 have hn:n=l.length+1:=by rw[<-U.length];exact dR V
 have hB:=I.size;by_cases h1:l.length=4
 .obtain⟨g,y,z,C,rfl⟩:∃g y z C,l=[g,y,z,C]:=by
   match l,h1 with
   |[a1,a2,a3,a4],_=>exact⟨a1,a2,a3,a4,rfl⟩
  obtain⟨b,o,rfl,W,q1,aQ⟩:=U.word (k:=1) (t:=g) (by rw[V];rfl) (d:=3) rfl;obtain⟨b',o',N,-,q2,ar⟩:=U.word (k:=2) (t:=y) (by rw[V];rfl) (d:=6) rfl;obtain⟨rfl,rfl⟩:b=b'/\o=o':=by simpa using N
  clear N;obtain⟨b',o',N,-,q3,av⟩:=U.word (k:=3) (t:=z) (by rw[V];rfl) (d:=9) rfl;obtain⟨rfl,rfl⟩:b=b'/\o=o':=by simpa using N
  clear N;obtain⟨b',o',N,-,q4,WM⟩:=U.word (k:=4) (t:=C) (by rw[V];rfl) (d:=12) rfl;obtain⟨rfl,rfl⟩:b=b'/\o=o':=by simpa using N
  clear N;simp only[aV,ln]at hn;subst hn;have HP:=J I;have aR:p<v.heap.size:=I.par.lt;obtain⟨A0,c0,hv⟩:=I.slice (i:=4) (by decide);have kp:v.cell? (p,5)=some (rv 4).v:=I.par.cell 5;rw[hv]at kp;have fp:=I.par.frozen 5;have bk:=I.i 4 (by decide);have HR:Hid (Bc s [g,y,z,C]=fin (aP (aP (aP (bQ 0 g) y) z) C) {s with f:= {s.f with gM:=s.f.gM++[⟨g,aI y,aI z,aI C⟩]}}):=rfl;have tK:=J (λv X O h=>BZ v X p O g h);have uC:=J (λv X O h=>eG v X p O y h ar);have a0:=J (dU y);have Ef:=J (λv X O h=>eG v X p O z h av);have a5:=J (dU z);have QK:=J (λv X O h=>eG v X p O C h WM);have a6:=J (dU C);generalize aI y=D at*
  generalize aI z=G at*
  generalize aI C=P at*
  clear I U V h1 aQ ar av WM;go_enter Tryz.func44,Tryz.ntmps44
  go_wp2_with fail
  refine(iE v p).mono ?_;rintro e a ⟨rfl,Y,aN⟩;obtain⟨aw,a7⟩:=aj aN;have TV:a.cell? (b,o+3+2)=some (.string ⟨g.toArray⟩):=(aw _ _ W).trans q1;have bm:=Y.lt;have a8:=aN.size;have bn:b<a.heap.size:=by omega
  have bo:b≠a.heap.size:=by omega
  have bp:p≠a.heap.size:=by omega
  have mg:=J (Y.alloc (.cells #[.string ⟨#[]⟩,.int .i64 0,.int .i64 0,.int .i64 0] 75));have a9:=J (aN.alloc a8 (.cells #[.string ⟨#[]⟩,.int .i64 0,.int .i64 0,.int .i64 0] 75));have uA:Hid (Bk (a.alloc (.cells #[.string ⟨#[]⟩,.int .i64 0,.int .i64 0,.int .i64 0] 75)) a.heap.size 75 #[.string ⟨#[]⟩,.int .i64 0,.int .i64 0,.int .i64 0]):=Bk.new _ _ _;clear Y aN;go_wp2_with fail
  refine(tK _ _ _ (by exact mg)).mono ?_;rintro e H ⟨rfl,aD,Z⟩;have aa:=bu a9 Z (ae _);obtain⟨L,ba⟩:=aj aa;have j:Bk H a.heap.size 75 #[.string ⟨#[]⟩,.int .i64 0,.int .i64 0,.int .i64 0]:=Bk.L Z uA (by omega);have FV:H.cell? (a,0)=some (.string ⟨#[]⟩):=j.cell 0;have bq:H.cell? (a,1)=some (.int .i64 0):=j.cell 1;have br:H.cell? (a,2)=some (.int .i64 0):=j.cell 2;have bs:H.cell? (a,3)=some (.int .i64 0):=j.cell 3;have y2:=j.frozen 0;have bv:=j.lt;have YT:H.cell? (b,o+6+2)=some (.string ⟨y.toArray⟩):=(L _ _ W).trans q2;have bw:H.cell? (b,o+9+2)=some (.string ⟨z.toArray⟩):=(L _ _ W).trans q3;have bx:H.cell? (b,o+12+2)=some (.string ⟨C.toArray⟩):=(L _ _ W).trans q4;have nO:Hid (i8 (H.setCell (a,0) (.string ⟨g.toArray⟩)) v.heap.size p (bQ 0 g)):=Bk.I aD (by simp;omega) _;have bb:=J (aa.setCell (p:=(a,0)) (by simp;omega) (.string ⟨g.toArray⟩));have lZ:Hid (Bk (H.setCell (a,0) (.string ⟨g.toArray⟩)) a.heap.size 75 #[.string ⟨g.toArray⟩,.int .i64 0,.int .i64 0,.int .i64 0]):=j.set 0 _;clear aD Z aa j aw a7;go_wp2_with fail
  refine(uC _ _ _ (by exact nO)).mono ?_;rintro e M ⟨rfl,aE,ab⟩;have ac:=bu bb ab (ae _);obtain⟨ad,bc⟩:=aj ac;have q:Bk M a.heap.size 75 #[.string ⟨g.toArray⟩,.int .i64 0,.int .i64 0,.int .i64 0]:=Bk.L ab lZ (by omega);have bz:M.cell? (a,0)=some (.string ⟨g.toArray⟩):=q.cell 0;have JH:M.cell? (a,1)=some (.int .i64 0):=q.cell 1;have bA:M.cell? (a,2)=some (.int .i64 0):=q.cell 2;have bB:M.cell? (a,3)=some (.int .i64 0):=q.cell 3;have y3:=q.frozen 1;have bE:=q.lt;have bH:M.cell? (b,o+9+2)=some (.string ⟨z.toArray⟩):=(ad _ _ W).trans q3;have bK:M.cell? (b,o+12+2)=some (.string ⟨C.toArray⟩):=(ad _ _ W).trans q4;have ou:Hid (i8 (M.setCell (a,1) (.int .i64 D)) v.heap.size p (aP (bQ 0 g) y)):=Bk.I aE (by simp;omega) _;have bd:=J (ac.setCell (p:=(a,1)) (by simp;omega) (.int .i64 D));have lM:Hid (Bk (M.setCell (a,1) (.int .i64 D)) a.heap.size 75 #[.string ⟨g.toArray⟩,D,.int .i64 0,.int .i64 0]):=q.set 1 _;clear aE ab ac q L ba;go_wp2_with fail
  refine(Ef _ _ _ (by exact ou)).mono ?_;rintro e Q ⟨rfl,aL,ak⟩;have al:=bu bd ak (ae _);obtain⟨aM,bf⟩:=aj al;have u:Bk Q a.heap.size 75 #[.string ⟨g.toArray⟩,D,.int .i64 0,.int .i64 0]:=Bk.L ak lM (by omega);have bL:Q.cell? (a,0)=some (.string ⟨g.toArray⟩):=u.cell 0;have bM:Q.cell? (a,1)=some (.int .i64 D):=u.cell 1;have bN:Q.cell? (a,2)=some (.int .i64 0):=u.cell 2;have bO:Q.cell? (a,3)=some (.int .i64 0):=u.cell 3;have y4:=u.frozen 2;have bP:=u.lt;have bR:Q.cell? (b,o+12+2)=some (.string ⟨C.toArray⟩):=(aM _ _ W).trans q4;have bg:Hid (i8 (Q.setCell (a,2) (.int .i64 G)) v.heap.size p (aP (aP (bQ 0 g) y) z)):=Bk.I aL (by simp;omega) _;have bh:=J (al.setCell (p:=(a,2)) (by simp;omega) (.int .i64 G));have ZX:Hid (Bk (Q.setCell (a,2) (.int .i64 G)) a.heap.size 75 #[.string ⟨g.toArray⟩,D,G,.int .i64 0]):=u.set 2 _;clear aL ak al u ad bc;go_wp2_with fail
  refine(QK _ _ _ (by exact bg)).mono ?_;rintro e S ⟨rfl,qP,ao⟩;have ap:=bu bh ao (ae _);obtain⟨bS,bT⟩:=aj ap;have x:Bk S a.heap.size 75 #[.string ⟨g.toArray⟩,D,G,.int .i64 0]:=Bk.L ao ZX (by omega);have bV:S.cell? (a,0)=some (.string ⟨g.toArray⟩):=x.cell 0;have bW:S.cell? (a,1)=some (.int .i64 D):=x.cell 1;have bX:S.cell? (a,2)=some (.int .i64 G):=x.cell 2;have b0:S.cell? (a,3)=some (.int .i64 0):=x.cell 3;have y5:=x.frozen 3;have b1:=x.lt;have VR:Hid (i8 (S.setCell (a,3) (.int .i64 P)) v.heap.size p (aP (aP (aP (bQ 0 g) y) z) C)):=Bk.I qP (by simp;omega) _;have bj:=J (ap.setCell (p:=(a,3)) (by simp;omega) (.int .i64 P));have VL:Hid (Bk (S.setCell (a,3) (.int .i64 P)) a.heap.size 75 #[.string ⟨g.toArray⟩,D,G,P]):=x.set 3 _;clear qP ao ap x aM bf;go_wp2_with fail
  obtain⟨E,aq⟩:∃E,S.setCell (a,3) (.int .i64 P)=E:=⟨_,rfl⟩
  rw[aq];have Hr:=VR;have Hb:=bj;have fU:=VL;rw[aq]at Hr Hb fU;have yD:E.cell? (a,0)=some (.string ⟨g.toArray⟩):=fU.cell 0;have Am:E.cell? (a,1)=some (.int .i64 D):=fU.cell 1;have En:E.cell? (a,2)=some (.int .i64 G):=fU.cell 2;have EU:E.cell? (a,3)=some (.int .i64 P):=fU.cell 3;have T:=HP.below Hb;have Au:E.cell? (p,5)=some (A0 (rv 4).n c0):=((aj Hb).1 _ _ aR).trans kp;have zp:p<E.heap.size:=T.par.lt;have zc:a.heap.size<E.heap.size:=fU.lt;have zr:v.heap.size<E.heap.size:=Hr.lt;have F:=T.live.own 4 (by decide);rw[hv]at F;obtain⟨A5,c5,w9,bl,aW,ay,bF⟩:=jh LJ 28 E Bd _ c0 A0 _ #[.string ⟨g.toArray⟩,D,G,P] rfl F (by simp[Value.oneCell']) (by omega) (by omega);rw[<-hv]at ay bF;have cZ:Bk w9 p kJ (eQ s rv gm cm):=(T.row (i:=4) (by decide) (r:=⟨A5 ((rv 4).n+1) c5,_,_⟩) ay aW bF).1;have kM:=Bk.grown Hr ay (T.live.own 4 (by decide)) (by decide);have x9:w9.cell? (p,5)=some (rv 4).v:=cZ.cell 5;have y9:=cZ.frozen 5;have z9:w9.cell? ⟨v.heap.size,1,none⟩=some (.int .i64 (aP (aP (aP (bQ 0 g) y) z) C)):=kM.cell 1;generalize b2:aP (aP (aP (bQ 0 g) y) z) C=O at*
  have bZ:=J (ie.arl (m:=1) (K':=K+n9 4) T ay aW bF (ys:=[⟨g,D,G,P⟩]) rfl (Fl.one (R:=kI) (⟨rfl,a0,a5,a6⟩) rfl) (by unfold n9;simp));have jd:=J ((Hb.mono hB).trans (T.qD (i:=4) (by decide) ay 5 (A5 ((rv 4).n+1) c5) T.size));have HQ:=J (KQ.below (cm:=cm) Hb);clear aq F aW ay bF cZ kM T;go_region
  all_goals
   go_wp2;go_ret
   exact iS.fin HR jd (HQ.trans bZ.2) bZ.1
 have HR:=J (JD gl s l h1);have e1:((n:Int)==5)=false:=by simp;omega
 have e2:((n:Int) !=5)=true:=by simp;omega
 clear I U V h1 hn;go_enter Tryz.func44,Tryz.ntmps44
 go_wp2;go_ret
 exact iS.bad HR (gD _ _)
end
theorem NN (a b c:Int):Calls Tryz.prog 85 #[.agg #[a,b,c]] v (mK v (-64<=a/\a<=b/\b<=c/\c<=64)):=by
 obtain⟨P,d⟩:∃P:Prop,Hid (P=(-64<=a/\a<=b/\b<=c/\c<=64)):=⟨_,rfl⟩
 rw[<-d.out];go_enter Tryz.func85,Tryz.ntmps85
 by_cases f:a< -64
 .go_wp2_with fail
  go_ret
  exact mK.bad ((gD _ _).alloc (ae _) _)
 by_cases g:b<a
 .go_wp2_with fail
  go_ret
  exact mK.bad ((gD _ _).alloc (ae _) _)
 by_cases h:c<b
 .go_wp2_with fail
  go_ret
  exact mK.bad ((gD _ _).alloc (ae _) _)
 by_cases i:64<c
 .go_wp2_with fail
  go_ret
  exact mK.bad ((gD _ _).alloc (ae _) _)
 have e:=J (d.mpr ⟨by omega,by omega,by omega,by omega⟩);go_wp2_with fail
 all_goals (go_ret;exact mK.O e _ ((gD _ _).alloc (ae _) _))
theorem GC (b:Nat)(r:List Int)(e:Bk v b 37 (aC r).toArray)(g:r.length=4):Calls Tryz.prog 121 #[.slice (b,0) 4 4] v (iz v (∀x∈r,x=0)):=by
 obtain⟨P,f⟩:∃P:Prop,Hid (P=(∀x∈r,x=0)):=⟨_,rfl⟩
 rw[<-f.out];have j:=J e;clear e;go_enter Tryz.func121,Tryz.ntmps121
 go_wp2_with fail
 go_loopw [3] (λi wr=>∃k:Nat,k<=4/\i=.int .i64 k/\Hid (Up r k (λx=>x=0))/\v=wr) (λi _=>4 - (intOf i).toNat)
 case atStart=>exact⟨0,by omega,rfl,J (Up.zero _ _),rfl⟩
 case round=>
  obtain⟨k,p,rfl,a,rfl⟩:=hrel;by_cases l:k<4
  .obtain⟨x,d⟩:∃x,r[k]?=some x:=⟨_,jO (by omega)⟩
   have q:v.cell? (b,k)=some (.int .i64 x):=by rw[j.out.cell k,<-Array.getElem?_toList];exact Nj _ _ _ d
   by_cases c:x=0
   .have m:=J (a.snoc d c);subst c;clear d;go_wp2_with fail
    go_roundw
    case rel=>exact⟨k+1,by omega,by simp,m,by trivial⟩
    case measure=>simp[intOf];omega
   have s:(x !=0)=true:=by simpa using c
   go_wp2_with fail
   go_ret
   exact iz.bad x c (gD _ _)
  obtain rfl:k=4:=by omega
  have n:=J (λx (h:x∈r)=>(a x (by rw[<-g,lf];exact h)));have o:((4:Nat):Int)=4:=rfl;rw[o];go_wp2_with fail
  go_ret
  exact iz.O (f.mpr n) (gD _ _)
theorem Uo (s:B)(x:s.length<=10000000000000):Calls Tryz.prog 83 #[.string s] v (mK v (hZ s=true)):=by
 obtain⟨P,o⟩:∃P:Prop,Hid (P=(hZ s=true)):=⟨_,rfl⟩
 rw[<-o.out];go_enter Tryz.func83,Tryz.ntmps83
 go_wp2_with fail
 go_loopw [3] (λi wr=>∃k:Nat,k<=s.length/\i=.int .i64 k/\Hid (∀j c,j<k->s[j]?=some c->nameAt j c=true)/\v=wr) (λi _=>s.length - (intOf i).toNat)
 case atStart=>exact⟨0,by omega,rfl,J (by omega),rfl⟩
 case round=>
  obtain⟨k,y,rfl,b,rfl⟩:=hrel;by_cases e:k<s.length
  .obtain⟨c,h⟩:∃c,s[k]?=some c:=⟨_,jO e⟩
   have p:=byte_at s k c h e;have f:Hid (nameAt k c=true->∀j d,j<k+1->s[j]?=some d->nameAt j d=true):=by
    intro q j d z l;by_cases m:j=k
    .subst m;rw[h]at l;cases l;exact q
    exact b j d (by omega) l
   clear h;go_wp2_with fail
   all_goals first
    |(go_ret;exact mK.bad (gD _ _))
    |((try simp only[Bool.not_eq_eq_eq_not,Bool.not_false,beq_iff_eq,beq_eq_false_iff_ne,bne_iff_ne,bne_eq_false_iff_eq,sk,ne_eq]at*);refine⟨⟨k+1,by omega,by first|(simp;done)|(simp;omega),J (f ((rf k c).2 ?_)),trivial⟩,by simp[intOf]<;>omega⟩;omega)
    |(exfalso;rename_i n t A;have u:(c.toNat:Int)<48:=(by omega);rw[if_pos u]at n;simp only[n',Value.bool.injEq]at n;exact t n.symm)
  obtain rfl:k=s.length:=by omega
  have w:=J (FZ s b);go_wp2_with fail
  all_goals
   go_ret
   refine⟨_,rfl,λp=> ?_,gD _ _⟩;rw[o.out,w.out];have g:s≠[]/\s.length<=16:=by
    revert p
    cases s with
    |nil=>simp
    |cons a r=>first|(simp;done)|(simp;omega)
   refine decide_eq_true ⟨tz.2 g.1,g.2⟩
theorem FD.Ck {w':World}{MJ f:Rows}(h:FD a (Fz a MJ) V n)(t:Tr a MJ w' f):FD w' (Fz w' f) V n:=⟨h.gt,h.p.tr t,h.Y.tr kO.ok t,h.u.tr t,h.G.tr kn.ok t,h.E.tr kI.ok t,h.H.tr ko.ok t,h.F.tr kx.ok t,h.gP.tr gS.ok t⟩
section
variable {w w2:World} {Bd p gm cm:Nat} {gl:Gl} {s:PS} {rv:Rows} {K:Nat}
theorem ie.sr (h:ie w Bd p gm cm gl s rv K){init:List hU}{g:hU}(k:s.f.ga=init++[g]):
  ∃G c0 c,(rv 0).v=.slice (some ⟨G,0,none⟩) (init.length+1) c0/\(rv 0).xs=c++[.string g.gn,.int .i64 g.gL,.bool g.i6,(rv 8).v,(rv 9).v,(rv 10).v,(rv 11).v,(rv 12).v,(rv 13).v]/\c.length=init.length*9/\G<w/\
   (∀j,j<9->w.cell? ⟨G,init.length*9+j,none⟩=[Value.string g.gn,.int .i64 g.gL,.bool g.i6,(rv 8).v,(rv 9).v,(rv 10).v,(rv 11).v,(rv 12).v,(rv 13).v][j]?)/\(∀j,w.frozen? ⟨G,j,none⟩=false)/\(∃a,Bk w G 52 a):=by
 have y:=h.D.p.1;have z:=h.live.own 0 (by decide);rcases h.D.p.2 with⟨e,_⟩|⟨l,A,c,d,u,E,B,-⟩
 .rw[k]at e;simp at e
 rw[k]at d;obtain⟨rfl,d⟩:=List.append_inj' d rfl;obtain rfl:g=A:=by simpa using d
 have o:=B.1;have b:(rv 0).n=init.length+1:=by rw[y,k];simp
 rcases z.2 with⟨_,F⟩|⟨G,q,a,x,H,i,C,I,D,r⟩
 .omega
 rw[b]at x;refine⟨G,q,c,x,u,o,(mq.1 i).1,λj L=> ?_,λj=>Bk.frozen i j,⟨a,i⟩⟩;rw[Bk.cell i];have t:init.length*9+j<(rv 0).n*kS 0:=by rw[b];show _<(init.length+1)*9;omega
 have:(a.toList.take ((rv 0).n*kS 0))[init.length*9+j]?=a.toList[init.length*9+j]? :=by rw[pY,if_pos t]
 rw[<-Array.getElem?_toList,<-this,r,u,ri (by rw[o];omega),o,Nat.add_sub_cancel_left]
theorem tu (b:List Value)(k a:Nat)(l:List Value)(v:Value)(c:b.length=k):(b++l).set (k+a) v=b++l.set a v:=by subst c;rw[List.set_append_right _ _ (by omega),Nat.add_sub_cancel_left]
variable {init:List hU} {g:hU} {G n0 c0 m K':Nat} {v':Value} {cs:List Value} {S:Bs} {r0 r8 r9 r10 r11 r12 r13:RV}
theorem pN.last (h:pN w S r0 r8 r9 r10 r11 r12 r13 (init++[g])):r0.n=init.length+1/\∃a,r0.xs=a++[.string g.gn,.int .i64 g.gL,.bool g.i6,r8.v,r9.v,r10.v,r11.v,r12.v,r13.v]/\gN g.gL/\Fl iA 9 w S a init/\ld lr 3 w S r8 g.gk/\ld gS 1 w S r9 g.gO/\ld lS 3 w S r10 g.gi/\ld mc 4 w S r11 g.gh/\ld md 4 w S r12 g.gx/\ld ky 2 w S r13 g.gR:=by
 refine⟨by simpa using h.1,?_⟩;rcases h.2 with⟨e,_⟩|⟨b,d,a,c,f⟩
 .simp at e
 obtain⟨rfl,c⟩:=List.append_inj' c rfl;obtain rfl:g=d:=by simpa using c
 exact⟨a,f⟩
abbrev PD (rv:Rows)(j:Nat)(v':Value)(m:Nat)(cs:List Value):Rows:=iK rv j ⟨v',(rv j).n+m,(rv j).xs++cs⟩
abbrev Bh (rv:Rows)(j:Nat)(v':Value)(m:Nat)(cs:List Value)(q:Nat):Rows:=iK (PD rv j v' m cs) 0 ⟨(rv 0).v,(rv 0).n,(rv 0).xs.set q v'⟩
theorem ie.tp (h:ie w Bd p gm cm gl s rv K)(k:(rv 0).v=.slice (G,0) n0 c0)(j q:Nat)(hj:8<=j/\j<14)(D:w.grownBy w2 (rv j).v.ownBlock)(ho:w2.ownsRow Bd (kT j) (kS j) v' ((rv j).n+m) ((rv j).xs++cs))(O:Loc w (rv j).v v')(F:K+m<=K')(gs:List hU)
  (x:Tr w rv w2 (PD rv j v' m cs)->Tr w2 (PD rv j v' m cs) (w2.setCell (G,q) v') (Bh rv j v' m cs q)->pN (w2.setCell (G,q) v') (Fz (w2.setCell (G,q) v') (Bh rv j v' m cs q)) (rv 0) (rv 8) (rv 9) (rv 10) (rv 11) (rv 12) (rv 13) s.f.ga->pN (w2.setCell (G,q) v') (Fz (w2.setCell (G,q) v') (Bh rv j v' m cs q)) (Bh rv j v' m cs q 0) (Bh rv j v' m cs q 8) (Bh rv j v' m cs q 9) (Bh rv j v' m cs q 10) (Bh rv j v' m cs q 11) (Bh rv j v' m cs q 12) (Bh rv j v' m cs q 13) gs):
  ∃ad,ie (w2.setCell (G,q) v') Bd p gm cm gl {s with f:= {s.f with ga:=gs}} ad K'/\KQ cm w (w2.setCell (G,q) v')/\Below Bd w (w2.setCell (G,q) v')/\(ad 0).v=(rv 0).v:=by
 have y:j<15:=by omega
 have P:Tr w rv w2 (PD rv j v' m cs):=Tr.row y D O;obtain⟨a1,H,-,Q,a5⟩:=h.row (i:=j) y (r:=⟨v',(rv j).n+m,(rv j).xs++cs⟩) D ho O;have R:(iK rv j ⟨v',(rv j).n+m,(rv j).xs++cs⟩) 0=rv 0:=iC _ _ (by omega);have T:PD rv j v' m cs 0=rv 0:=R;have l:=H.own 0 (by decide);rw[R,k]at l;have z:n0=(rv 0).n:=by obtain⟨A9,c9,e⟩:=mP (h.live.own 0 (by decide));rw[k]at e;simp only[oa]at e;exact e.2.1
 have A:=W9 (z ▸ l) q v';rw[z]at k;have o:(Value.slice (G,0) (rv 0).n c0).ownBlock=some G:=rfl;have t:w2.grownBy (w2.setCell (G,q) v') (PD rv j v' m cs 0).v.ownBlock:=by rw[T,k,o];exact fZ w2 ⟨G,_,none⟩ v'
 rw[<-k]at A;have B:Loc w2 (PD rv j v' m cs 0).v (rv 0).v:= .inl (by rw[T]);have b2:=H.row (i:=0) (by decide) (r:=⟨(rv 0).v,(rv 0).n,(rv 0).xs.set q v'⟩) t A B;have u:Tr w2 (PD rv j v' m cs) (w2.setCell (G,q) v') (Bh rv j v' m cs q):=Tr.row (by decide) t B;have d:=(h.D.tr P).Ck u;have I:G≠p:=λe=>by
  obtain⟨aa,L⟩:=dY (h.live.own 0 (by decide)) (g:=G) (by rw[k];rfl);subst e;have:=(dw L h.par).1
  revert this
  decide
 have C:∀b U c,w2.heap[b]?=some (Obj.map U c)->b≠G:=λb U c L e=>by
  subst e;obtain⟨aa,M⟩:=dY l (g:=b) rfl;unfold Bk at M;rw[L]at M;cases M
 obtain⟨e1,c1,m1⟩:=Q.isMap;obtain⟨ff,V,q2⟩:=a5;obtain⟨e2,c2,m2⟩:=V.isMap;have E:∀i,i≠0->i≠j->Bh rv j v' m cs q i=rv i:=λi a b=>(iC _ _ a).trans (iC _ _ b)
 have E0:(Bh rv j v' m cs q 0).v=(rv 0).v:=rfl;have W:=E 1 (by decide) (by omega);have X:=E 2 (by decide) (by omega);have Y:=E 3 (by decide) (by omega);have Z:=E 4 (by decide) (by omega);have E5:=E 5 (by decide) (by omega);have E6:=E 6 (by decide) (by omega);have E7:=E 7 (by decide) (by omega);have N:=E 14 (by decide) (by omega);refine⟨Bh rv j v' m cs q,?_,?_,?_,rfl⟩
 .refine {par:= ?_,live:=b2,D:=⟨d.gt,x P u d.p,by rw[W];exact d.Y,by rw[X,N];exact d.u,by rw[Y];exact d.G,by rw[Z];exact d.E,by rw[E5];exact d.H,by rw[E6];exact d.F,by rw[E7];exact d.gP⟩,r:=Q.keep (Below.heap_setCell _ _ _ _ (C _ _ _ m1)),m:=h.m,ia:=pC.tr ⟨ff,V,q2⟩ u (Below.heap_setCell _ _ _ _ (C _ _ _ m2)),i:=tY (tY h.i (nt (pH _ _) F) (nt (rh (h.i j y) m) F)) (ae _) (nt (h.i 0 (by decide)) (nt (pH _ _) F)),low:=h.low};simp only[eQ,E0,W,X,Y,Z,E5,E6,E7];exact Bk.I a1 (λe=>I e.symm) _
 .exact(KQ.live h.live (i:=j) y D).trans (KQ.live H (i:=0) (by decide) t)
 refine((gD Bd w).grown D h.size (λg e=>((h.live.own j y).lt g e).1)).setCell ?_ _;exact((h.live.own 0 (by decide)).lt G (by rw[k];rfl)).1
theorem ie.arw (h:ie w Bd p gm cm gl s rv K)(i:s.f.ga=init++[g])(j:(rv 0).v=.slice (G,0) n0 c0){H:List Pt}(l:w.grownBy w2 (rv 8).v.ownBlock)(o:w2.ownsRow Bd (kT 8) (kS 8) v' ((rv 8).n+m) ((rv 8).xs++cs))(q:Loc w (rv 8).v v')(r:m=H.length)(t:Fl lr 3 w (Fz w rv) cs H)(u:K+m<=K'):
  ∃F,ie (w2.setCell (G,init.length*9+3) v') Bd p gm cm gl {s with f:= {s.f with ga:=init++[{g with gk:=g.gk++H}]}} F K'/\KQ cm w (w2.setCell (G,init.length*9+3) v')/\Below Bd w (w2.setCell (G,init.length*9+3) v')/\(F 0).v=(rv 0).v:=
 h.tp j 8 _ (by decide) l o q u _ λx b k=>by
  rw[i]at k;obtain⟨a,d,y,z,e,A,B,C,D,E,c⟩:=k.last;exact⟨by show(rv 0).n=_;rw[a];simp,.inr ⟨init,_,d,rfl,by show(rv 0).xs.set _ v'=_;rw[y,tu d _ 3 _ _ e.1];rfl,z,e,A.app rfl r (b.V lr.ok (x.V lr.ok t)),B,C,D,E,c⟩⟩
theorem ie.arq (h:ie w Bd p gm cm gl s rv K)(i:s.f.ga=init++[g])(j:(rv 0).v=.slice (G,0) n0 c0){ys:List Int}(l:w.grownBy w2 (rv 9).v.ownBlock)(o:w2.ownsRow Bd (kT 9) (kS 9) v' ((rv 9).n+m) ((rv 9).xs++cs))(q:Loc w (rv 9).v v')(r:m=ys.length)(t:Fl gS 1 w (Fz w rv) cs ys)(u:K+m<=K'):
  ∃F,ie (w2.setCell (G,init.length*9+4) v') Bd p gm cm gl {s with f:= {s.f with ga:=init++[{g with gO:=g.gO++ys}]}} F K'/\KQ cm w (w2.setCell (G,init.length*9+4) v')/\Below Bd w (w2.setCell (G,init.length*9+4) v')/\(F 0).v=(rv 0).v:=
 h.tp j 9 _ (by decide) l o q u _ λx b k=>by
  rw[i]at k;obtain⟨a,d,y,z,e,A,B,C,D,E,c⟩:=k.last;exact⟨by show(rv 0).n=_;rw[a];simp,.inr ⟨init,_,d,rfl,by show(rv 0).xs.set _ v'=_;rw[y,tu d _ 4 _ _ e.1];rfl,z,e,A,B.app rfl r (b.V gS.ok (x.V gS.ok t)),C,D,E,c⟩⟩
theorem ie.arv (h:ie w Bd p gm cm gl s rv K)(i:s.f.ga=init++[g])(j:(rv 0).v=.slice (G,0) n0 c0){ys:List Part}(l:w.grownBy w2 (rv 10).v.ownBlock)(o:w2.ownsRow Bd (kT 10) (kS 10) v' ((rv 10).n+m) ((rv 10).xs++cs))(q:Loc w (rv 10).v v')(r:m=ys.length)(t:Fl lS 3 w (Fz w rv) cs ys)(u:K+m<=K'):
  ∃F,ie (w2.setCell (G,init.length*9+5) v') Bd p gm cm gl {s with f:= {s.f with ga:=init++[{g with gi:=g.gi++ys}]}} F K'/\KQ cm w (w2.setCell (G,init.length*9+5) v')/\Below Bd w (w2.setCell (G,init.length*9+5) v')/\(F 0).v=(rv 0).v:=
 h.tp j 10 _ (by decide) l o q u _ λx b k=>by
  rw[i]at k;obtain⟨a,d,y,z,e,A,B,C,D,E,c⟩:=k.last;exact⟨by show(rv 0).n=_;rw[a];simp,.inr ⟨init,_,d,rfl,by show(rv 0).xs.set _ v'=_;rw[y,tu d _ 5 _ _ e.1];rfl,z,e,A,B,C.app rfl r (b.V lS.ok (x.V lS.ok t)),D,E,c⟩⟩
theorem ie.ark (h:ie w Bd p gm cm gl s rv K)(i:s.f.ga=init++[g])(j:(rv 0).v=.slice (G,0) n0 c0){ys:List ml}(l:w.grownBy w2 (rv 11).v.ownBlock)(o:w2.ownsRow Bd (kT 11) (kS 11) v' ((rv 11).n+m) ((rv 11).xs++cs))(q:Loc w (rv 11).v v')(r:m=ys.length)(t:Fl mc 4 w (Fz w rv) cs ys)(u:K+m<=K'):
  ∃F,ie (w2.setCell (G,init.length*9+6) v') Bd p gm cm gl {s with f:= {s.f with ga:=init++[{g with gh:=g.gh++ys}]}} F K'/\KQ cm w (w2.setCell (G,init.length*9+6) v')/\Below Bd w (w2.setCell (G,init.length*9+6) v')/\(F 0).v=(rv 0).v:=
 h.tp j 11 _ (by decide) l o q u _ λx b k=>by
  rw[i]at k;obtain⟨a,d,y,z,e,A,B,C,D,E,c⟩:=k.last;exact⟨by show(rv 0).n=_;rw[a];simp,.inr ⟨init,_,d,rfl,by show(rv 0).xs.set _ v'=_;rw[y,tu d _ 6 _ _ e.1];rfl,z,e,A,B,C,D.app rfl r (b.V mc.ok (x.V mc.ok t)),E,c⟩⟩
theorem ie.arp (h:ie w Bd p gm cm gl s rv K)(i:s.f.ga=init++[g])(j:(rv 0).v=.slice (G,0) n0 c0){ys:List Delta}(l:w.grownBy w2 (rv 12).v.ownBlock)(o:w2.ownsRow Bd (kT 12) (kS 12) v' ((rv 12).n+m) ((rv 12).xs++cs))(q:Loc w (rv 12).v v')(r:m=ys.length)(t:Fl md 4 w (Fz w rv) cs ys)(u:K+m<=K'):
  ∃F,ie (w2.setCell (G,init.length*9+7) v') Bd p gm cm gl {s with f:= {s.f with ga:=init++[{g with gx:=g.gx++ys}]}} F K'/\KQ cm w (w2.setCell (G,init.length*9+7) v')/\Below Bd w (w2.setCell (G,init.length*9+7) v')/\(F 0).v=(rv 0).v:=
 h.tp j 12 _ (by decide) l o q u _ λx b k=>by
  rw[i]at k;obtain⟨a,d,y,z,e,A,B,C,D,E,c⟩:=k.last;exact⟨by show(rv 0).n=_;rw[a];simp,.inr ⟨init,_,d,rfl,by show(rv 0).xs.set _ v'=_;rw[y,tu d _ 7 _ _ e.1];rfl,z,e,A,B,C,D,E.app rfl r (b.V md.ok (x.V md.ok t)),c⟩⟩
theorem ie.aru (h:ie w Bd p gm cm gl s rv K)(i:s.f.ga=init++[g])(j:(rv 0).v=.slice (G,0) n0 c0){H:List Ins}(l:w.grownBy w2 (rv 13).v.ownBlock)(o:w2.ownsRow Bd (kT 13) (kS 13) v' ((rv 13).n+m) ((rv 13).xs++cs))(q:Loc w (rv 13).v v')(r:m=H.length)(t:Fl ky 2 w (Fz w rv) cs H)(u:K+m<=K'):
  ∃F,ie (w2.setCell (G,init.length*9+8) v') Bd p gm cm gl {s with f:= {s.f with ga:=init++[{g with gR:=g.gR++H}]}} F K'/\KQ cm w (w2.setCell (G,init.length*9+8) v')/\Below Bd w (w2.setCell (G,init.length*9+8) v')/\(F 0).v=(rv 0).v:=
 h.tp j 13 _ (by decide) l o q u _ λx b k=>by
  rw[i]at k;obtain⟨a,d,y,z,e,A,B,C,D,E,c⟩:=k.last;exact⟨by show(rv 0).n=_;rw[a];simp,.inr ⟨init,_,d,rfl,by show(rv 0).xs.set _ v'=_;rw[y,tu d _ 8 _ _ e.1];rfl,z,e,A,B,C,D,E,c.app rfl r (b.V ky.ok (x.V ky.ok t))⟩⟩
end
section
attribute [-go_sem] Builtin.append_
theorem FU (S:Bs)(l:List Int)(h:∀x∈l,gN x):Fl gS 1 v S (aC l) l:=by
 induction l with
 |nil=>exact Fl.nil
 |cons x r a=>exact(Fl.one (R:=gS) (cs:=[.int .i64 x]) ⟨rfl,h x (by simp)⟩ rfl).append (a (λy b=>h y (by simp[b])))
theorem JO (l:List B):∀x∈l.map aI,gN x:=by intro x a;rw[mN]at a;obtain⟨t,_,rfl⟩:=a;exact dU t
theorem lR.below {w w':World}{n:Nat}{b:List P3}(h:lR w A n b)(a:Below w w w'):lR w' A n b:=⟨h.rd.below a,h.len,h.i⟩
theorem Za (Bd p ak cm:Nat)(gl:Gl)(s:PS)(rv:Rows)(K:Nat)(A:Option Addr)(n c:Nat)(ws:List P3)(t:B)(l:List B)(g:ie v Bd p ak cm gl s rv K)(q:lR v A n ws)(L:af ws=t::l)(hK:K<=10000000000)(hc:n<=c):
  Calls Tryz.prog 46 #[.pointer (p,0),A n c] v (iS v Bd p ak cm gl (K+n) (Ui s l)):=by
 have hn:n=l.length+1:=by rw[<-q.length];exact dR L
 have hB:=g.size;have HP:=J g;have u:p<v.heap.size:=g.par.lt;obtain⟨G,H,M⟩:=g.slice (i:=7) (by decide);have N:v.cell? (p,8)=some (rv 7).v:=g.par.cell 8;rw[M]at N;have U:=g.i 7 (by decide);have HR:Hid (Ui s l=fin (gu 0 l) {s with f:= {s.f with gP:=s.f.gP++l.map aI}}):=rfl;obtain⟨A',V,x,h⟩:=q.sub hc 1 1 rfl (by omega);have y:=J (λk W (hr:i8 k W p 0) (hb:Below v v k)=>yJ k W p 0 A' (n - 1) (c - 1) (ws.drop 1) hr (x.below hb) h (by have:=q.i;omega));rw[kX L]at y;have z:l.length=n - 1:=by omega
 have ab:=q.i;have O:=J (λ(v:World) S=>FU v S (l.map aI) (JO l));have P:Hid (n - 1=(l.map aI).length):=by show _=_;simp[z]
 clear g q L x h z hn;go_enter Tryz.func46,Tryz.ntmps46
 go_wp2_with fail
 refine(iE v p).mono ?_;rintro e k ⟨rfl,C,d⟩;have k1:k.cell? (p,8)=some (G (rv 7).n H):=((aj d).1 _ _ u).trans N;have mg:=J C;have D:=J d;clear C d;go_wp2_with fail
 have ad:k.drew.cell? (p,8)=some (G (rv 7).n H):=k1
 go_region_with (go_at_call 92;refine(y _ _ (by exact mg) (by exact D.drew)).mono ?_;rintro e X ⟨w,rfl,A4,c4,rfl,Y,E,F⟩;have a:=bu D.drew F (ae _);have j:=HP.below a;have b:=j.live.own 7 (by decide);rw[M]at b;have Z:=(jX Y).rd;obtain⟨A5,c5,Q,aa,R,o,I⟩:=JX iw 22 X Bd _ H G _ _ A4 (n - 1) c4 _ b Z (wW _) (by omega) j.size;have k2:X.cell? (p,8)=some (G (rv 7).n H):=((aj a).1 _ _ u).trans N;rw[<-M]at o I;have T:Bk Q p kJ (eQ s rv ak cm):=(j.row (i:=7) (by decide) (r:=⟨A5 ((rv 7).n+(n - 1)) c5,_,_⟩) o R I).1;have kM:=Bk.grown E o (j.live.own 7 (by decide)) (by decide);have x9:Q.cell? (p,8)=some (rv 7).v:=T.cell 8;have y9:=T.frozen 8;have z9:Q.cell? (v,1)=some (.int .i64 (gu 0 l)):=kM.cell 1;have bZ:=J (ie.aro (m:=n - 1) (K':=K+n) j o R I P (O _ _) (by omega));have jd:=J ((a.mono hB).trans (j.qD (i:=7) (by decide) o 8 (A5 ((rv 7).n+(n - 1)) c5) j.size));have HQ:=J (KQ.below (cm:=cm) a);clear b R o I T kM j a Y E F Z)
 all_goals
  go_wp2;go_ret
  exact iS.fin HR jd (HQ.trans bZ.2) bZ.1
end
structure Fp where
 A1:Option Addr
 c1:Nat
 A2:Option Addr
 c2:Nat
 A3:Option Addr
 c3:Nat
 A4:Option Addr
 c4:Nat
 A5:Option Addr
 c5:Nat
 A6:Option Addr
 c6:Nat
 A7:Option Addr
 c7:Nat
 A8:Option Addr
 c8:Nat
def Fp.cs (p:Fp)(f:iu):Array Value:= #[f.gt,.slice p.A1 f.ga.length p.c1,.slice p.A2 f.f6.length p.c2,.slice p.A3 f.ge.length p.c3,.slice p.A4 f.a'.length p.c4,.slice p.A5 f.gM.length p.c5,.slice p.A6 f.d'.length p.c6,.slice p.A7 f.fY.length p.c7,.slice p.A8 f.gP.length p.c8]
structure oS (p:Fp)(f:iu)(w:World):Prop where
 gt:gN f.gt
 ga:Sl iA 9 w (Lw w) p.A1 f.ga
 f6:Sl kO 2 w (Lw w) p.A2 f.f6
 ge:Sl jn 3 w (Lw w) p.A3 f.ge
 k:Sl kn 2 w (Lw w) p.A4 f.a'
 gM:Sl kI 4 w (Lw w) p.A5 f.gM
 e:Sl ko 1 w (Lw w) p.A6 f.d'
 fY:Sl kx 1 w (Lw w) p.A7 f.fY
 gP:Sl gS 1 w (Lw w) p.A8 f.gP
theorem oS.below {p:Fp}{w w':World}(h:oS p n w)(a:Below w w w'):oS p n w':=⟨h.gt,h.ga.lw iA.ok a,h.f6.lw kO.ok a,h.ge.lw jn.ok a,h.k.lw kn.ok a,h.gM.lw kI.ok a,h.e.lw ko.ok a,h.fY.lw kx.ok a,h.gP.lw gS.ok a⟩
theorem kt.fin (h:kt a (Lw a) f n):∃p:Fp,f.toArray=p.cs n/\oS p n a:=by obtain⟨b,c,d,c2,e,c3,g,i,j,k,l,m,w,o,q,r,rfl,s,t,u,v,x,y,z,A,B⟩:=h;exact⟨⟨b,c,d,c2,e,c3,g,i,j,k,l,m,w,o,q,r⟩,rfl,s,t,u,v,x,y,z,A,B⟩
structure Gp where
 A3:Option Addr
 c3:Nat
 A4:Option Addr
 c4:Nat
 A5:Option Addr
 c5:Nat
 A6:Option Addr
 c6:Nat
 A7:Option Addr
 c7:Nat
 A8:Option Addr
 c8:Nat
def Gp.cs (p:Gp)(g:hU):Array Value:= #[.string g.gn,g.gL,.bool g.i6,.slice p.A3 g.gk.length p.c3,.slice p.A4 g.gO.length p.c4,.slice p.A5 g.gi.length p.c5,.slice p.A6 g.gh.length p.c6,.slice p.A7 g.gx.length p.c7,.slice p.A8 g.gR.length p.c8]
structure wt (p:Gp)(g:hU)(w:World):Prop where
 oo:gN g.gL
 gk:Sl lr 3 w (Lw w) p.A3 g.gk
 gO:Sl gS 1 w (Lw w) p.A4 g.gO
 gi:Sl lS 3 w (Lw w) p.A5 g.gi
 gh:Sl mc 4 w (Lw w) p.A6 g.gh
 gx:Sl md 4 w (Lw w) p.A7 g.gx
 gR:Sl ky 2 w (Lw w) p.A8 g.gR
theorem wt.below {p:Gp}{g:hU}{w w':World}(h:wt p g w)(a:Below w w w'):wt p g w':=⟨h.oo,h.gk.lw lr.ok a,h.gO.lw gS.ok a,h.gi.lw lS.ok a,h.gh.lw mc.ok a,h.gx.lw md.ok a,h.gR.lw ky.ok a⟩
structure Rp where
 A0:Option Addr
 c0:Nat
 A1:Option Addr
 c1:Nat
 A2:Option Addr
 c2:Nat
 A3:Option Addr
 c3:Nat
 A4:Option Addr
 c4:Nat
def Rp.cs (p:Rp)(r:k'):Array Value:= #[.slice p.A0 r.gE.length p.c0,.slice p.A1 r.ij.length p.c1,.slice p.A2 r.ahead.length p.c2,.slice p.A3 r.out.length p.c3,.slice p.A4 r.gw.length p.c4,r.x]
structure wJ (p:Rp)(r:k')(w:World):Prop where
 x:gN r.x
 gE:Sl gT 1 w (Lw w) p.A0 r.gE
 ij:Sl gT 1 w (Lw w) p.A1 r.ij
 ahead:Sl gT 1 w (Lw w) p.A2 r.ahead
 out:Sl gS 1 w (Lw w) p.A3 r.out
 gw:Sl mo 2 w (Lw w) p.A4 r.gw
theorem wJ.below {p:Rp}{r:k'}{w w':World}(h:wJ p r w)(a:Below w w w'):wJ p r w':=⟨h.x,h.gE.lw gT.ok a,h.ij.lw gT.ok a,h.ahead.lw gT.ok a,h.out.lw gS.ok a,h.gw.lw mo.ok a⟩
def ip (n:Nat):Prop:=n<=10000000000000
theorem aO (t:TypeId)(a:Array Value):∃W,v.alloc (.cells a t)=W/\Below v v W/\Bk W v.heap.size t a:=⟨_,rfl,(gD _ _).alloc (ae _) _,Bk.new _ _ _⟩
theorem Bk.l {w':World}{c:Array Value}(h:Bk a b u c)(t:Below a a w'):Bk w' b u c:=(t.block b h.lt).trans h
theorem Bk.at {w':World}(h:Bk a b u d)(v:Below a a w')(i:Nat)(c:d[i]?=some W):w'.cell? (b,i)=some W:=by rw[(aj v).1 _ _ h.lt,h.cell i,c]
theorem J2 (A1 A2:Option Addr)(c1 c2:Nat)(c:List Pt)(d:List Int)(n:Sl gS 1 v (Lw v) A2 d)(u:ip c.length)(w:ip d.length):Calls Tryz.prog 120 #[.agg #[A1 c.length c1,A2 d.length c2]] v (mK v (jM 0 d c.length)):=by
 obtain⟨P,C⟩:∃P:Prop,Hid (P=(jM 0 d c.length)):=⟨_,rfl⟩
 rw[<-C.out];unfold ip at u w;have x:=J n;clear n;go_enter Tryz.func120,Tryz.ntmps120
 obtain⟨s,p,f,g⟩:=aO v 46 #[A1 c.length c1,A2 d.length c2];have y:=J f;have q:=J g;replace x:=J (x.lw gS.ok f);have R:s.cell? (v,1)=some (A2 d.length c2):=g.cell 1;have z:=f.size;clear f g;go_wp2_with fail
 try rw[p]
 clear p;go_loopw [3,4] (λl i wr=>∃(k:Nat) (a:Int),k<=d.length/\i=.int .i64 k/\l=.int .i64 a/\ -1<=a/\a<(c.length:Int)+1/\Hid (∀tl,jM (a+1).toNat tl c.length->jM 0 (d.take k++tl) c.length)/\Below s s wr) (λ_ i _=>d.length - (intOf i).toNat)
 case atStart=>exact⟨0,-1,by omega,rfl,rfl,by omega,by omega,J (λtl h=>by simpa using h),gD _ _⟩
 case round=>
  obtain⟨k,a,S,rfl,rfl,G,T,j,m⟩:=hrel;have t:=J m;have U:=q.at t 0 rfl;have V:=q.at t 1 rfl;have r:Hid (Below v v wr):=J (y.trans (m.mono z));clear m;by_cases A:k<d.length
  .obtain⟨b,o,e,rfl,H,D,W,I⟩:=(x.lw gS.ok t).int A;clear H I;have Q:Hid (0<=e->e<c.length->a+2<=e->∀tl,jM (e+1).toNat tl c.length->jM 0 (d.take (k+1)++tl) c.length):=by intro X Y Z tl K;rw[pm,D.out,mL];refine j _ ?_;show jM _ (e::tl) _;exact⟨by omega,by omega,by rw[show e.toNat+1=(e+1).toNat by omega];exact K⟩
   clear D j;by_cases E:e<0
   .go_wp2_with fail
    go_quiet (fail)
    go_wp2_with fail
    go_ret
    exact mK.bad (below_drewN r _)
   have L:decide (e<0)=false:=decide_eq_false E;by_cases n:(c.length:Int)<=e
   .go_wp2_with fail
    go_quiet (fail)
    go_wp2_with fail
    go_ret
    exact mK.bad (below_drewN r _)
   have M:decide ((c.length:Int)<=e)=false:=decide_eq_false n;by_cases F:e<a+2
   .go_wp2_with fail
    go_quiet (fail)
    go_wp2_with fail
    go_ret
    exact mK.bad (below_drewN r _)
   have N:decide (e<a+2)=false:=decide_eq_false F;have B:=J (Q (by omega) (by omega) (by omega));go_wp2_with fail
   go_quiet (fail)
   go_wp2_with fail
   go_roundw
   case rel=>exact⟨k+1,e,by omega,by simp,rfl,by omega,by omega,B,below_drewN t _⟩
   case measure=>simp[intOf];omega
  obtain rfl:k=d.length:=by omega
  by_cases he:a=(c.length:Int) - 1
  .have O:P:=C.mpr (by
    have:=j [] (by show(a+1).toNat=c.length;omega)
    rwa [lf,pp]at this)
   subst he;go_wp2_with fail
   go_ret
   exact mK.O O _ r
  have e1:(a==(c.length:Int) - 1)=false:=by simpa using he
  go_wp2_with fail
  go_ret
  exact mK.bad r
