/- Lemmas. -/
import Derived.Test.YtalehhjjbadlpaaGreatDoorX18
import Derived.Test.YtalehhjjbadlpaaGreatDoorMkU
set_option linter.all false
namespace Go.Proofs.YtalehhjjbadlpaaGreatDoor
open Go.RowKit
theorem wO {w w':World}{a b:Nat}(m:oe w w' a b){k l e:TypeId}{o q:Array Value}(r:Bk w a k o)(t:Bk w b l q)(u:e≠k)(x:e≠l){A C n:Nat}{v:Value}{D:List Value}(h:w.ownsRow A e C v n D):w'.ownsRow A e C v n D:=by
 refine⟨h.1,?_⟩;rcases h.2 with y|⟨g,f,i,rfl,z,d,c⟩
 .exact .inl y
 refine .inr ⟨g,f,i,rfl,z,(m.block g (mq.1 d).1 (λj=> ?_) (λj=> ?_)).trans d,c⟩
 .subst j;exact u (dw d r).1
 subst j;exact x (dw d t).1
theorem xP {w w':World}{a b:Nat}(m:oe w w' a b){j k:TypeId}{n o:Array Value}(q:Bk w a j n)(r:Bk w b k o)(t:3≠j)(u:3≠k){v:Nat}{l:List Value}{x:List (List Int)}(h:Fl gT 1 w (IB v w) l x):Fl gT 1 w' (IB v w') l x:=by
 have c:Same (IB v w) w w':=λg ⟨_,d,e⟩=>m.block g e.lt (λf=>by subst f;exact t (dw e q).1) (λf=>by subst f;exact u (dw e r).1)
 exact(h.keep gT.ok c).mono gT.ok λg i=>⟨i.1,by obtain⟨d,e⟩:=i.2;exact⟨d,e.keep (c g i)⟩⟩
section
variable {w W:World} {Bd p gm cm:Nat} {gl:Gl} {s:PS} {rv:Rows} {K:Nat}
theorem Om (h:ie w Bd p gm cm gl s rv K){A:Option Addr}{n c b i:Nat}{d:List Value}{j:List (List Int)}(e:W.ownsRow b 22 1 (A n c) n d)(f:Fl gT 1 W (IB i W) d j)(g:w.heap.size<=b)(a:w.heap.size<=i):Sl gT 1 W (Fz W rv) A j:=Sl.pk e (f.mono gT.ok (h.ib a)) (h.fresh e g (by decide)) (by decide)
theorem L6 (W:World)(S:Bs)(l:List Call)(h:∀x∈l,gN x.iB/\gN x.lookup):Fl mo 2 W S (uF l) l:=by
 induction l with
 |nil=>exact Fl.nil
 |cons x r a=>obtain⟨b,c⟩:=h x (by simp);exact(Fl.one (R:=mo) ⟨rfl,b,c⟩ rfl).append (a (λy d=>h y (by simp[d])))
theorem Uu (h:ie w Bd p gm cm gl s rv K){T U V f g:Option Addr}{X c1 c2 i j k l m n o q r t:Nat}{u v z:List Value}{c d e:List (List Int)}{b:List Int}{a:List Call}{x:Int}
  (C:W.ownsRow k 22 1 (T c.length X) c.length u) (f0:Fl gT 1 W (IB q W) u c) (D:W.ownsRow l 22 1 (U d.length c1) d.length v) (E:Fl gT 1 W (IB r W) v d) (F:W.ownsRow m 22 1 (V e.length c2) e.length z) (G:Fl gT 1 W (IB t W) z e)
  (A:W.ownsRow n 3 1 (f b.length i) b.length (aC b)) (B:W.ownsRow o 71 2 (g a.length j) a.length (uF a)) (H:∀y∈b,gN y) (I:∀y∈a,gN y.iB/\gN y.lookup) (S:gN x)
  (L:w.heap.size<=k) (M:w.heap.size<=l) (N:w.heap.size<=m) (Y:w.heap.size<=n) (O:w.heap.size<=o) (P:w.heap.size<=q) (Q:w.heap.size<=r) (R:w.heap.size<=t):
  lj W (Fz W rv) [T c.length X,U d.length c1,V e.length c2,f b.length i,g a.length j,.int .i64 x] ⟨c,d,e,b,a,x⟩:=
 ⟨T,X,U,c1,V,c2,f,i,g,j,rfl,S,Om h C f0 L P,Om h D E M Q,Om h F G N R,Sl.pk A (FU _ _ _ H) (h.fresh A Y (by decide)) (by decide),Sl.pk B (L6 _ _ _ I) (h.fresh B O (by decide)) (by decide)⟩
end
structure MS {α:Type}(R:Rel α)(w0:World)(m:Nat)(fs:Nat->Value)(lp:Int)(j:Nat)(e:TypeId)(ts:List TypeId)(sz:Nat)(A:Option Addr)(c:Nat)(cells:List Value)(xs:List α)(P:World->Prop)(hi im:Nat)(wr:World):Prop where
 b:Mk wr m (eP fs j (A xs.length c)) lp
 row:wr.ownsRow hi e sz (A xs.length c) xs.length cells
 V:Fl R sz wr (TR ts hi im wr) cells xs
 fz:ly (m+1) hi P wr
 low:Below w0 w0 wr
 g:w0.heap.size<=m/\m<hi/\hi<=im/\im<=wr
section
variable {α:Type} {R:Rel α} {w0:World} {m:Nat} {fs:Nat->Value} {lp:Int} {j:Nat} {e:TypeId} {ts:List TypeId} {sz:Nat} {A:Option Addr} {c:Nat} {cells:List Value} {xs:List α} {P:World->Prop} {hi im:Nat} {wr w2:World}
theorem MS.start (h:Mk wr m fs lp)(f:fs j=.slice none 0 0)(a:ly (m+1) hi P wr)(b:Below w0 w0 wr)(d:w0.heap.size<=m/\m<hi):MS R w0 m fs lp j e ts sz none 0 [] [] P wr.heap.size wr.heap.size wr:=by
 have g:eP fs j (.slice none 0 0)=fs:=by
  funext i
  unfold eP;split
  .rename_i e;rw[e,f]
  rfl
 exact⟨by rw[show([]:List α).length=0 from rfl,g];exact h,World.ownsRow_nil _ _ _ _,Fl.nil,a.wide (ae _) a.im (ae _),b,d.1,mz d.2 a.im,ae _,ae _⟩
theorem zM (a:Below w0 w0 wr)(b:w0.heap.size<=m)(d:Mv m wr w2):Below w0 w0 w2:=a.trans (Yi d b a.size)
theorem MS.next (g:R.Ok)(h:MS R w0 m fs lp j e ts sz A c cells xs P hi im wr)(he:e≠pU){a:Int}(i:Mk w2 m (eP fs j (A xs.length c)) a)(b:Mv m wr w2):MS R w0 m fs a j e ts sz A c cells xs P hi im w2:=by obtain⟨d,k,l,n⟩:=h.g;have o:=b.size;exact⟨i,(Sp.next h.b b).own h.row he,h.V.C g (TR.step b (λx f=>by injection f with f;exact .inl (by omega))),h.fz.next (by omega) b,zM h.low d b,d,k,l,by omega⟩
theorem MS.below (b:R.Ok)(h:MS R w0 m fs lp j e ts sz A c cells xs P hi im wr)(a:Below wr wr w2):MS R w0 m fs lp j e ts sz A c cells xs P hi im w2:=by obtain⟨d,f,g,k⟩:=h.g;have l:=a.size;exact⟨h.b.below a,gj h.row a,h.V.C b (TR.step (az a none) (λx i=>by cases i)),h.fz.below a,h.low.trans (a.mono h.low.size),d,f,g,by omega⟩
theorem MS.drew (a:R.Ok)(h:MS R w0 m fs lp j e ts sz A c cells xs P hi im wr):MS R w0 m fs lp j e ts sz A c cells xs P hi im wr.drew:=h.below a (gD _ _).drew
theorem MS.cell (h:MS R w0 m fs lp j e ts sz A c cells xs P hi im wr)(a:j<9):wr.cell? (m,j+2)=some (A xs.length c):=h.b.iB j a (fG _ _ _)
theorem MS.other (n:R.Ok)(h:MS R w0 m fs lp j e ts sz A c cells xs P hi im wr){g:Nat}(b:wr.grownBy w2 (some g))(l:im<=g){t:TypeId}{w:Array Value}(o:Bk wr g t w)(d:e≠t)(f:pU≠t):MS R w0 m fs lp j e ts sz A c cells xs P hi im w2:=by
 obtain⟨p,q,r,v⟩:=h.g;have s:Sp m t wr w2:=⟨some g,b,λx a=>by injection a with a;subst a;exact⟨by omega,_,o⟩⟩
 have u:=b.size;exact⟨s.mk h.b f,s.own h.row d,h.V.C n (TR.step b (λx a=>by injection a with a;exact .inr (by omega))),h.fz.row b (λx a=>by injection a with a;exact .inr (by omega)),⟨b.os.trans h.low.os,b.tape.trans h.low.tape,b.output.trans h.low.output,nt h.low.size u,λi k=>(b.block i (by have:=h.low.size;omega) (λe=>by injection e with e;omega)).trans (h.low.block i k)⟩,p,q,r,by omega⟩
theorem MS.push (p:R.Ok)(h:MS R w0 m fs lp j e ts sz A c cells xs P hi im wr){C n s:Nat}{t:TypeId}{v:Value}{D:List Value}(d:wr.ownsRow C t s v n D)(q:im<=C)(a:wr.grownBy w2 v.ownBlock)(f:e≠t)(g:pU≠t):MS R w0 m fs lp j e ts sz A c cells xs P hi im w2:=by
 obtain⟨r,u,w,z⟩:=h.g;have o:Sp m t wr w2:=Sp.push d (by omega) a;have y:=a.size;have b:∀x,v.ownBlock=some x->im<=x:=λx k=>nt q (d.lt x k).1
 exact⟨o.mk h.b g,o.own h.row f,h.V.C p (TR.step a (λx k=> .inr (b x k))),h.fz.push d (by omega) a,⟨a.os.trans h.low.os,a.tape.trans h.low.tape,a.output.trans h.low.output,nt h.low.size y,λi l=>(a.block i (by have:=h.low.size;omega) (λe=>by have:=b i e.symm;omega)).trans (h.low.block i l)⟩,r,u,w,by omega⟩
theorem MS.rn (b:R.Ok)(h:MS R w0 m fs lp j e ts sz A c cells xs P hi im wr){a:Nat}(d:im<=a)(f:a<=wr):MS R w0 m fs lp j e ts sz A c cells xs P hi a wr:=by obtain⟨g,i,k,l⟩:=h.g;exact⟨h.b,h.row,h.V.mono b (TR.sub (λ_ h=>h) (ae _) d),h.fz,h.low,g,i,by omega,f⟩
theorem MS.BS (D:R.Ok)(h:MS R w0 m fs lp j e ts sz A c cells xs P hi im wr)(T:j<9){t:TypeId}(E:mh e t sz)(he:pU≠e)(F:e ∉ ts){n:Nat}(W:xs.length=n)(hl:n<=1000)(x:α)(a:Array Value)(p:a.size=sz)(q:∀u∈a.toList,u.oneCell'=true)(X:R wr (TR ts hi wr.heap.size wr) a.toList x):
  ∃B d f,(Builtin.append_ #[t,t] t #[A n c,.slice (wr,0) 1 1]).run Tryz.prog (wr.alloc (.cells a e))=.ok (.slice B (n+1) d) f/\
   f.cell? (m,j+2)=some (A n c)/\f.frozen? (m,j+2)=false/\m<f.heap.size/\Sp m e wr f/\MS R w0 m fs lp j e ts sz B d (cells++a.toList) (xs++[x]) P hi wr.heap.size (f.setCell (m,j+2) (.slice B (n+1) d)):=by
 subst W;obtain⟨U,Y,b3,Z⟩:=h.g;obtain⟨B,d,f,r,aW,k,bF⟩:=dJ E t wr hi _ c A _ a p h.row q (by omega) (by omega);have s:Sp m e wr f:=Sp.push h.row (by omega) k;have v:=k.size;have o:=s.mk h.b he;have G:∀x,(Value.slice A xs.length c).ownBlock=some x->hi<=x:=λx C=>(h.row.lt x C).1
 have w:(xs++[x]).length=xs.length+1:=by simp
 have H:=(h.V.mono D (TR.sub (λ_ h=>h) (ae _) Z)).append (Fl.one X (by simpa using p));have I:Fl R sz f (TR ts hi wr.heap.size f) (cells++a.toList) (xs++[x]):=H.C D (by
  have y:∀b,TR ts hi wr.heap.size wr b->f.heap[b]?=wr.heap[b]? :=λb ⟨ad,K,t,z,g⟩=>k.block b z.lt (λe'=>by
   obtain⟨aa,L⟩:=iI h.row b e'.symm;have:=(dw L z).1;subst this;exact F g)
  exact⟨y,λb L=>by
   obtain⟨ad,K,t,z,g⟩:=L;exact⟨ad,K,t,(y b ⟨ad,K,t,z,g⟩).trans z,g⟩⟩)
 have M:=h.fz.push h.row (ae _) k;have N:Below w0 w0 f:=⟨k.os.trans h.low.os,k.tape.trans h.low.tape,k.output.trans h.low.output,nt h.low.size v,λi O=>(k.block i (by have:=h.low.size;omega) (λe=>by have:=G i e.symm;omega)).trans (h.low.block i O)⟩
 have V:=o.put j T (.slice B (xs.length+1) d);rw[OE]at V;have l:=o.tF (j+2) (.slice B (xs.length+1) d);have S:=o.sp (j+2) (.slice B (xs.length+1) d);refine⟨B,d,f,r,o.iB j T (fG _ _ _),o.frozen _,o.lt,s,by rw[w];exact V,?_,I.C D (TR.step l (λx C=>by injection C with C;exact .inl (by omega))),M.next (by omega) l,zM N U l,U,Y,by omega,by simpa using v⟩;rw[w];exact S.own aW he.symm
theorem MS.more (k:R.Ok)(h:MS R w0 m fs lp j e ts sz A c cells xs P hi im wr)(l:j<9){t:TypeId}(E:mh e t sz)(he:pU≠e)(g:e ∉ ts){n:Nat}(o:xs.length=n)(p:n<=1000)(x:α)(a:Array Value)(i:a.size=sz)(f:∀u∈a.toList,u.oneCell'=true)(q:R wr (TR ts hi wr.heap.size wr) a.toList x):
  ∃B d b,(Builtin.append_ #[t,t] t #[A n c,.slice (wr,0) 1 1]).run Tryz.prog (wr.alloc (.cells a e))=.ok (.slice B (n+1) d) b/\
   b.cell? (m,j+2)=some (A n c)/\b.frozen? (m,j+2)=false/\m<b.heap.size/\MS R w0 m fs lp j e ts sz B d (cells++a.toList) (xs++[x]) P hi wr.heap.size (b.setCell (m,j+2) (.slice B (n+1) d)):=by
 obtain⟨B,d,b,r,s,v,w,-,y⟩:=h.BS k l E he g o p x a i f q;exact⟨B,d,b,r,s,v,w,y⟩
theorem MS.done (b:R.Ok)(h:MS R w0 m fs lp j e ts sz A c cells xs P hi im wr)(a:0<sz):ly (m+1) wr.heap.size (λw=>P w/\Sl R sz w (TR (e::ts) (m+1) wr.heap.size w) A xs) wr:=by obtain⟨i,k,l,d⟩:=h.g;have f:Sl R sz wr (TR (e::ts) (m+1) wr.heap.size wr) A xs:=Cf h.row (h.V.mono b (TR.sub (λt g=>List.mem_cons_of_mem _ g) (by omega) d)) (by simp) (by omega) a;exact(h.fz.wide (ae _) (by omega) (ae _)).and (ly.sl b f (ae _))
theorem MS.box (n:R.Ok)(h:MS R w0 m fs lp j e ts sz A c cells xs P hi im wr){g:Nat}(b:wr.grownBy w2 (some g))(l:im<=g){v:Array Value}(o:Bk wr g e v)(d:∀x,(Value.slice A xs.length c).ownBlock=some x->x≠g)(f:pU≠e):MS R w0 m fs lp j e ts sz A c cells xs P hi im w2:=by
 obtain⟨p,q,r,u⟩:=h.g;have s:Sp m e wr w2:=⟨some g,b,λx a=>by injection a with a;subst a;exact⟨by omega,_,o⟩⟩
 have t:=b.size;refine⟨s.mk h.b f,h.row.kept b ?_,h.V.C n (TR.step b (λx a=>by injection a with a;exact .inr (by omega))),h.fz.row b (λx a=>by injection a with a;exact .inr (by omega)),⟨b.os.trans h.low.os,b.tape.trans h.low.tape,b.output.trans h.low.output,nt h.low.size t,λi k=>(b.block i (by have:=h.low.size;omega) (λe=>by injection e with e;omega)).trans (h.low.block i k)⟩,p,q,r,by omega⟩;cases a:(Value.slice A xs.length c).ownBlock with
 |none=>exact .inl rfl
 |some x=>exact .inr (λe=>d x a (by injection e))
end
structure SG (w0:World)(m:Nat)(fs:Nat->Value)(lp:Int)(P:World->Prop)(hi:Nat)(wr:World):Prop where
 b:Mk wr m fs lp
 fz:ly (m+1) hi P wr
 low:Below w0 w0 wr
 g:w0.heap.size<=m/\m<hi
section
variable {α:Type} {R:Rel α} {w0:World} {m:Nat} {fs:Nat->Value} {lp:Int} {j:Nat} {e:TypeId} {ts:List TypeId} {sz:Nat} {A:Option Addr} {c:Nat} {cells:List Value} {xs:List α} {P Q:World->Prop} {hi im:Nat} {wr w2:World}
theorem MS.sg (b:R.Ok)(h:MS R w0 m fs lp j e ts sz A c cells xs P hi im wr)(a:0<sz):SG w0 m (eP fs j (A xs.length c)) lp (λw=>P w/\Sl R sz w (TR (e::ts) (m+1) wr.heap.size w) A xs) wr.heap.size wr:=⟨h.b,h.done b a,h.low,h.g.1,by have:=h.g;omega⟩
theorem SG.ms (h:SG w0 m fs lp P hi wr)(a:fs j=.slice none 0 0):MS R w0 m fs lp j e ts sz none 0 [] [] P wr.heap.size wr.heap.size wr:=MS.start h.b a h.fz h.low h.g
theorem SG.next (h:SG w0 m fs lp P hi wr){a:Int}(d:Mk w2 m fs a)(b:Mv m wr w2):SG w0 m fs a P hi w2:=⟨d,h.fz.next (by omega) b,zM h.low h.g.1 b,h.g⟩
theorem SG.below (h:SG w0 m fs lp P hi wr)(a:Below wr wr w2):SG w0 m fs lp P hi w2:=⟨h.b.below a,h.fz.below a,h.low.trans (a.mono h.low.size),h.g⟩
theorem SG.more (h:SG w0 m fs lp P hi wr){hi2:Nat}(a:hi<=hi2)(b:hi2<=wr)(d:Q wr)(f:∀w w',Q w->ZM (m+1) hi2 w w'->Q w'):SG w0 m fs lp (λw=>P w/\Q w) hi2 wr:=⟨h.b,(h.fz.wide (ae _) a b).and ⟨d,f,b⟩,h.low,h.g.1,mz h.g.2 a⟩
