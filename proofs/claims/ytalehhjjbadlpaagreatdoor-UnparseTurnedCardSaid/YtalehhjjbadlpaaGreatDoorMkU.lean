/- Lemmas. -/
import Derived.Test.YtalehhjjbadlpaaGreatDoorMkRc
set_option linter.all false
namespace Go.Proofs.YtalehhjjbadlpaaGreatDoor
open Go.RowKit
def eP (fs:Nat->Value)(j:Nat)(u:Value):Nat->Value:=λi=>if i=j then u else fs i
theorem OE (fs:Nat->Value)(j:Nat)(u v:Value):eP (eP fs j u) j v=eP fs j v:=by
 funext i
 unfold eP;split<;>rfl
theorem fG (fs:Nat->Value)(j:Nat)(u:Value):eP fs j u j=u:=if_pos rfl
theorem aZ {fs:Nat->Value}{j i:Nat}{u:Value}(h:i≠j):eP fs j u i=fs i:=if_neg h
section
variable {w w2:World} {m:Nat} {fs:Nat->Value} {lp:Int}
theorem Mk.put (h:Mk w m fs lp)(j:Nat)(d:j<9)(u:Value):Mk (w.setCell (m,j+2) u) m (eP fs j u) lp:=by
 have:j=0\/j=1\/j=2\/j=3\/j=4\/j=5\/j=6\/j=7\/j=8:=by omega
 rcases this with rfl|rfl|rfl|rfl|rfl|rfl|rfl|rfl|rfl<;>exact h.set _ u (λA n c a=>by simp[uR,eP])
theorem Mk.loops (h:Mk w m fs lp)(l:Int):Mk (w.setCell (m,11) (.int .i64 l)) m fs l:=h.set _ _ (λA n c a=>by simp[uR])
theorem Mk.bk (h:Mk w m fs lp):∃f,Bk w m pU f:=by obtain⟨A,n,c,a,e,d,-⟩:=h;exact⟨_,d⟩
theorem Mk.sp (h:Mk w m fs lp)(j:Nat)(u:Value):Sp m pU w (w.setCell (m,j) u):=by obtain⟨d,a⟩:=h.bk;exact Sp.set a (ae _) j u
theorem Mk.tF (_h:Mk w m fs lp)(j:Nat)(u:Value):Mv m w (w.setCell (m,j) u):=aX (World.grownBy.refl _ _) (.inl rfl) u
theorem Mk.iB (h:Mk w m fs lp)(j:Nat)(a:j<9){u:Value}(d:fs j=u):w.cell? (m,j+2)=some u:=by rw[h.cells.1 j a,d]
end
abbrev ja:TypeId:=65
abbrev PW:List TypeId:=[dD,aK,kl,xh]
def xd (x:Int×Bool):List Value:=[.int .i64 x.1,.bool x.2,.slice none 0 0]
def wV (l:List (Int×Bool)):List Value:=l.flatMap xd
structure L1 (w:World)(m:Nat)(fs:Nat->Value)(lp:Int)(bs:List (Int×Bool))(A:Option Addr)(c:Nat)(ks:List Int)(Ac:Option Addr)(cc:Nat)(wr:World):Prop where
 b:Mk wr m (eP fs 3 (A bs.length c)) lp
 row:wr.ownsRow w.heap.size ja 3 (A bs.length c) bs.length (wV bs)
 B:wr.ownsRow w.heap.size aK 1 (Ac ks.length cc) ks.length (aC ks)
 j:Mv m w wr
section
variable {w wr w2:World} {m:Nat} {fs:Nat->Value} {lp:Int} {bs:List (Int×Bool)} {A:Option Addr} {c:Nat} {ks:List Int} {Ac:Option Addr} {cc:Nat}
theorem L1.next (h:L1 w m fs lp bs A c ks Ac cc wr)(d:Mk w2 m (eP fs 3 (A bs.length c)) lp)(a:Mv m wr w2):L1 w m fs lp bs A c ks Ac cc w2:=by have s:=Sp.next h.b a;exact⟨d,s.own h.row (by decide),s.own h.B (by decide),iD h.j a⟩
theorem L1.below (h:L1 w m fs lp bs A c ks Ac cc wr)(a:Below wr wr w2):L1 w m fs lp bs A c ks Ac cc w2:=by have s:Sp m pU wr w2:=Sp.below a;exact⟨h.b.below a,s.own h.row (by decide),s.own h.B (by decide),lq h.j a⟩
theorem L1.drew (h:L1 w m fs lp bs A c ks Ac cc wr):L1 w m fs lp bs A c ks Ac cc wr.drew:=h.below (gD _ _).drew
theorem L1.more (h:L1 w m fs lp bs A c ks Ac cc wr)(o:m<w){n:Nat}(g:bs.length=n)(r:n<=1000)(k:Int)(b:Bool):
  ∃B d a,(Builtin.append_ #[26,26] 26 #[A n c,.slice (wr,0) 1 1]).run Tryz.prog (wr.alloc (.cells #[k,.bool b,()] ja))=.ok (.slice B (n+1) d) a/\
   a.cell? (m,5)=some (A n c)/\a.frozen? (m,5)=false/\m<a.heap.size/\L1 w m fs lp (bs++[(k,b)]) B d ks Ac cc (a.setCell (m,5) (.slice B (n+1) d)):=by
 subst g;obtain⟨B,d,a,f,p,i,t⟩:=dJ LQ 26 wr w.heap.size _ c A _ #[k,.bool b,()] rfl h.row (by simp[Value.oneCell']) (by omega) h.j.size;have s:Sp m ja wr a:=Sp.push h.row (by omega) i;have e:=s.mk h.b (by decide);have g:(bs++[(k,b)]).length=bs.length+1:=by simp
 have q:a.ownsRow w.heap.size ja 3 (.slice B (bs++[(k,b)]).length d) (bs++[(k,b)]).length (wV (bs++[(k,b)])):=by rw[g];simpa [wV,xd]using p
 have j:=e.sp 5 (.slice B (bs.length+1) d);have l:=e.put 3 (by omega) (.slice B (bs.length+1) d);rw[OE]at l;refine⟨B,d,a,f,e.iB 3 (by omega) (fG _ _ _),e.frozen 5,e.lt,by rw[g];exact l,j.own q (by decide),j.own (s.own h.B (by decide)) (by decide),iD (lW h.j h.row (ae _) i) (e.tF 5 _)⟩
theorem L1.call (h:L1 w m fs lp bs A c ks Ac cc wr)(e:m<w){B:Option Addr}{d:Nat}{x:Int}(f:w2.ownsRow w.heap.size aK 1 (B (ks.length+1) d) (ks.length+1) (aC ks++[.int .i64 x]))(a:wr.grownBy w2 (Value.slice Ac ks.length cc).ownBlock):L1 w m fs lp bs A c (ks++[x]) B d w2:=by
 have s:Sp m aK wr w2:=Sp.push h.B (by omega) a;have g:(ks++[x]).length=ks.length+1:=by simp
 refine⟨s.mk h.b (by decide),s.own h.row (by decide),?_,lW h.j h.B (ae _) a⟩;rw[g];simpa [aC,cI]using f
end
structure L2 (w:World)(m:Nat)(fs:Nat->Value)(lp:Int)(n:Nat)(A:Option Addr)(c:Nat)(dc:List Value)(ls:List gH)(mid:List Value)(rest:List (Int×Bool))(ks:List Int)(Ac:Option Addr)(cc:Nat)(im:Nat)(wr:World):Prop where
 b:Mk wr m (eP fs 3 (A n c)) lp
 row:wr.ownsRow w.heap.size ja 3 (A n c) n (dc++(mid++wV rest))
 done:Fl jn 3 wr (TR PW w.heap.size im wr) dc ls
 B:wr.ownsRow w.heap.size aK 1 (Ac ks.length cc) ks.length (aC ks)
 j:Mv m w wr
 im:w.heap.size<=im/\im<=wr
section
variable {w wr w2:World} {m:Nat} {fs:Nat->Value} {lp:Int} {n:Nat} {A:Option Addr} {c:Nat} {dc:List Value} {ls:List gH} {mid:List Value} {rest:List (Int×Bool)} {ks:List Int} {Ac:Option Addr} {cc im:Nat}
theorem L1.two {bs:List (Int×Bool)}(h:L1 w m fs lp bs A c ks Ac cc wr):L2 w m fs lp bs.length A c [] [] [] bs ks Ac cc wr.heap.size wr:=⟨h.b,by simpa using h.row,Fl.nil,h.B,h.j,h.j.size,ae _⟩
theorem L2.next (h:L2 w m fs lp n A c dc ls mid rest ks Ac cc im wr)(e:m<w)(f:Mk w2 m (eP fs 3 (A n c)) lp)(a:Mv m wr w2):L2 w m fs lp n A c dc ls mid rest ks Ac cc im w2:=by have s:=Sp.next h.b a;have g:=a.size;exact⟨f,s.own h.row (by decide),h.done.C jn.ok (TR.step a (λx d=>by injection d with d;exact .inl (by omega))),s.own h.B (by decide),iD h.j a,h.im.1,nt h.im.2 g⟩
theorem L2.below (h:L2 w m fs lp n A c dc ls mid rest ks Ac cc im wr)(a:Below wr wr w2):L2 w m fs lp n A c dc ls mid rest ks Ac cc im w2:=by have s:Sp m pU wr w2:=Sp.below a;exact⟨h.b.below a,s.own h.row (by decide),h.done.C jn.ok (TR.step (az a none) (λx d=>by cases d)),s.own h.B (by decide),lq h.j a,h.im.1,nt h.im.2 a.size⟩
theorem L2.drew (h:L2 w m fs lp n A c dc ls mid rest ks Ac cc im wr):L2 w m fs lp n A c dc ls mid rest ks Ac cc im wr.drew:=h.below (gD _ _).drew
theorem L2.gw (h:L2 w m fs lp n A c dc ls mid rest ks Ac cc im wr)(a:∀x∈ks,gN x):Sl gS 1 wr (TR [aK] w.heap.size wr.heap.size wr) Ac ks:=Cf h.B (jW _ _ ks a) (by simp) (ae _) (by omega)
theorem L2.head {k:Int}{b:Bool}{r:List (Int×Bool)}(h:L2 w m fs lp n A c dc ls [] ((k,b)::r) ks Ac cc im wr):L2 w m fs lp n A c dc ls [.int .i64 k,.bool b,.slice none 0 0] r ks Ac cc im wr:=by refine⟨h.b,?_,h.done,h.B,h.j,h.im⟩;have:=h.row;simpa [wV,xd]using this
theorem L2.cells {k:Int}{b:Bool}{v:Value}(h:L2 w m fs lp n A c dc ls [.int .i64 k,.bool b,v] rest ks Ac cc im wr):∃g,A=some ⟨g,0,none⟩/\g<wr/\wr.cell? ⟨g,ls.length*3,none⟩=some (.int .i64 k)/\wr.cell? ⟨g,ls.length*3+1,none⟩=some (.bool b)/\wr.cell? ⟨g,ls.length*3+2,none⟩=some v/\(∀j,wr.frozen? ⟨g,j,none⟩=false)/\ls.length<n/\w.heap.size<=g:=by
 have d:=h.row;have l:=d.1;have f:=h.done.1;simp only[la,aV,ln,f]at l;have o:ls.length<n:=by omega
 obtain⟨g,rfl⟩:∃g,A=some ⟨g,0,none⟩:=by
  rcases d.2 with⟨-,s⟩|⟨g,p,q,i,-⟩
  .omega
  simp only[oa,true_and]at i;exact⟨g,i.1⟩
 have e:=d.lt g rfl;have a:∀j (u:Value),(dc++([.int .i64 k,.bool b,v]++wV rest))[j]?=some u->wr.cell? ⟨g,j,none⟩=some u:=λj u r=>by
  have:=d.cells (g:=g) rfl j u r
  rwa [jt,mU]at this
 refine⟨g,rfl,e.2,a _ _ ?_,a _ _ ?_,a _ _ ?_,λj=>d.frozenAt j,o,e.1⟩
 .rw[ri (by omega),f,Nat.sub_self];rfl
 .rw[ri (by omega),f,show ls.length*3+1 - ls.length*3=1 by omega];rfl
 rw[ri (by omega),f,show ls.length*3+2 - ls.length*3=2 by omega];rfl
theorem L2.iB {k:Int}{b:Bool}{v:Value}{g:Nat}(h:L2 w m fs lp n (g,0) c dc ls [.int .i64 k,.bool b,v] rest ks Ac cc im wr):wr.cell? (g,ls.length*3)=some (.int .i64 k)/\wr.cell? (g,ls.length*3+2)=some v/\g<wr.heap.size:=by
 obtain⟨f,a,d,i,-,j,-,-,-⟩:=h.cells;have e:f=g:=by simpa using a.symm
 subst e;exact⟨i,j,d⟩
theorem L2.skip {k:Int}{b:Bool}(h:L2 w m fs lp n A c dc ls [.int .i64 k,.bool b,.slice none 0 0] rest ks Ac cc im wr)(a:gN k):L2 w m fs lp n A c (dc++[.int .i64 k,.bool b,.slice none 0 0]) (ls++[⟨k,b,[]⟩]) [] rest ks Ac cc im wr:=by refine⟨h.b,?_,h.done.append (Fl.one ⟨none,0,rfl,a,Sl.nil⟩ rfl),h.B,h.j,h.im⟩;have:=h.row;simpa using this
end
structure L3 (w:World)(m:Nat)(fs:Nat->Value)(lp:Int)(n:Nat)(A:Option Addr)(c:Nat)(dc:List Value)(ls:List gH)(k:Int)(b:Bool)(rs:List k')(Ar:Option Addr)(cr:Nat)(rc:List Value)(rest:List (Int×Bool))(ks:List Int)(Ac:Option Addr)(cc:Nat)(im hi:Nat)(wr:World):Prop where
 two:L2 w m fs lp n A c dc ls [.int .i64 k,.bool b,Ar rs.length cr] rest ks Ac cc im wr
 W:wr.ownsRow im dD 6 (Ar rs.length cr) rs.length rc
 rT:Fl lj 6 wr (TR jQ im hi wr) rc rs
 tB:im<=hi/\hi<=wr
section
variable {w wr w2:World} {m:Nat} {fs:Nat->Value} {lp:Int} {n:Nat} {A:Option Addr} {c:Nat} {dc:List Value} {ls:List gH} {k:Int} {b:Bool} {rs:List k'} {Ar:Option Addr} {cr:Nat} {rc:List Value} {rest:List (Int×Bool)} {ks:List Int} {Ac:Option Addr} {cc im hi:Nat}
theorem L2.three (h:L2 w m fs lp n A c dc ls [.int .i64 k,.bool b,.slice none 0 0] rest ks Ac cc im wr):L3 w m fs lp n A c dc ls k b [] none 0 [] rest ks Ac cc wr.heap.size wr.heap.size wr:=⟨⟨h.b,h.row,h.done.mono jn.ok (TR.sub (λ_ h=>h) (ae _) h.im.2),h.B,h.j,nt h.im.1 h.im.2,ae _⟩,World.ownsRow_nil _ _ _ _,Fl.nil,ae _,ae _⟩
theorem L3.next (h:L3 w m fs lp n A c dc ls k b rs Ar cr rc rest ks Ac cc im hi wr)(d:m<w)(f:Mk w2 m (eP fs 3 (A n c)) lp)(a:Mv m wr w2):L3 w m fs lp n A c dc ls k b rs Ar cr rc rest ks Ac cc im hi w2:=by have s:=Sp.next h.two.b a;have g:=h.two.im;exact⟨h.two.next d f a,s.own h.W (by decide),h.rT.C lj.ok (TR.step a (λx e=>by injection e with e;exact .inl (by omega))),h.tB.1,nt h.tB.2 a.size⟩
theorem L3.drew (h:L3 w m fs lp n A c dc ls k b rs Ar cr rc rest ks Ac cc im hi wr):L3 w m fs lp n A c dc ls k b rs Ar cr rc rest ks Ac cc im hi wr.drew:=⟨h.two.drew,h.W,h.rT,h.tB⟩
theorem L3.more (h:L3 w m fs lp n A c dc ls k b rs Ar cr rc rest ks Ac cc im hi wr)(ad:m<w){y:Nat}(R:rs.length=y)(hl:y<=1000){g:Nat}(P:A=(g,0)){lo:Nat}(l:im<=lo)(r:k'){D E F G H:Option Addr}{d0 d1 d2 d3 d4:Nat}(S:gN r.x)
  (s0:Sl gT 1 wr (TS jQ lo wr) D r.gE) (s1:Sl gT 1 wr (TS jQ lo wr) E r.ij) (s2:Sl gT 1 wr (TS jQ lo wr) F r.ahead) (s3:Sl gS 1 wr (TS jQ lo wr) G r.out) (s4:Sl mo 2 wr (TS jQ lo wr) H r.gw):
  ∃B d f T,(Builtin.append_ #[63,63] 63 #[Ar y cr,.slice (wr,0) 1 1]).run Tryz.prog (wr.alloc (.cells #[D r.gE.length d0,E r.ij.length d1,F r.ahead.length d2,G r.out.length d3,H r.gw.length d4,r.x] dD))=.ok (.slice B (y+1) d) f/\
   f.cell? (m,5)=some (A n c)/\f.cell? (g,ls.length*3)=some (.int .i64 k)/\f.cell? (g,ls.length*3+2)=some (Ar y cr)/\f.frozen? (g,ls.length*3+2)=false/\g<f.heap.size/\L3 w m fs lp n A c dc ls k b (rs++[r]) B d T rest ks Ac cc im wr.heap.size (f.setCell (g,ls.length*3+2) (.slice B (y+1) d)):=by
 subst R;have Q:=h.two.im;obtain⟨B,d,f,I,aW,ak,bF⟩:=dJ zu 63 wr im _ cr Ar _ #[D r.gE.length d0,E r.ij.length d1,F r.ahead.length d2,G r.out.length d3,H r.gw.length d4,r.x] rfl h.W (by simp[Value.oneCell']) (by omega) Q.2;have s:Sp m dD wr f:=Sp.push h.W (by omega) ak;have U:=ak.size;have a:L2 w m fs lp n A c dc ls [.int .i64 k,.bool b,Ar rs.length cr] rest ks Ac cc im f:=⟨s.mk h.two.b (by decide),s.own h.two.row (by decide),h.two.done.C jn.ok (TR.step ak (λx S=> .inr (h.W.lt x S).1)),s.own h.two.B (by decide),lW h.two.j h.W (by omega) ak,Q.1,by omega⟩
 obtain⟨g',V,W,e0,e1,e2,ef,hn,X⟩:=a.cells;have eg:g=g':=by have:=P.symm.trans V;simpa using this
 subst eg;have K:(rs++[r]).length=rs.length+1:=by simp
 have one:Fl lj 6 wr (TR jQ im wr.heap.size wr) [D r.gE.length d0,E r.ij.length d1,F r.ahead.length d2,G r.out.length d3,H r.gw.length d4,.int .i64 r.x] [r]:=Fl.one ⟨D,d0,E,d1,F,d2,G,d3,H,d4,rfl,S,s0.mono gT.ok (TR.sB l),s1.mono gT.ok (TR.sB l),s2.mono gT.ok (TR.sB l),s3.mono gS.ok (TR.sB l),s4.mono mo.ok (TR.sB l)⟩ rfl;have Y:=(h.rT.mono lj.ok (TR.sub (λ_ h=>h) (ae _) h.tB.2)).append one;have Z:Fl lj 6 f (TR jQ im wr.heap.size f) _ (rs++[r]):=Y.C lj.ok (by
  have o:∀b,TR jQ im wr.heap.size wr b->f.heap[b]?=wr.heap[b]? :=λb ⟨q,z,t,j,i⟩=>ak.block b j.lt (λe=>by
   obtain⟨aa,L⟩:=iI h.W b e.symm;have:=(dw L j).1;subst this;exact absurd i (by decide))
  exact⟨o,λb L=>by
   obtain⟨q,z,t,j,i⟩:=L;exact⟨q,z,t,(o b ⟨q,z,t,j,i⟩).trans j,i⟩⟩)
 obtain⟨z,M⟩:∃z,Bk f g ja z:=by obtain⟨aa,j⟩:=iI a.row g (by rw[P];rfl);exact⟨_,j⟩
 have u:Sp m ja f (f.setCell (g,ls.length*3+2) (.slice B (rs.length+1) d)):=Sp.set M (by omega) _ _;have ab:f.grownBy (f.setCell (g,ls.length*3+2) (.slice B (rs.length+1) d)) (some g):=aX (World.grownBy.refl _ _) (.inl rfl) _;have p:=a.row;rw[P]at p;have N:=(p.stored (ls.length*3+2) (.slice B (rs.length+1) d)).1;have O:(dc++([Value.int .i64 k,.bool b,Ar rs.length cr]++wV rest)).set (ls.length*3+2) (.slice B (rs.length+1) d)=dc++([Value.int .i64 k,.bool b,.slice B (rs.length+1) d]++wV rest):=by rw[List.set_append_right _ _ (by rw[a.done.1];omega),a.done.1,show ls.length*3+2 - ls.length*3=2 by omega];rfl
 have tl:∀(C:List TypeId) (lo hi:Nat),ja ∉ C->Same (TR C lo hi f) f (f.setCell (g,ls.length*3+2) (.slice B (rs.length+1) d))/\∀b,TR C lo hi f b->TR C lo hi (f.setCell (g,ls.length*3+2) (.slice B (rs.length+1) d)) b:=λC lo hi ac=>by
  have o:∀b,TR C lo hi f b->(f.setCell (g,ls.length*3+2) (.slice B (rs.length+1) d)).heap[b]?=f.heap[b]? :=λb' ⟨q,v,t,j,i⟩=>ab.block b' j.lt (λe=>by
   injection e with e
   subst e;have:=(dw M j).1;subst this;exact ac i)
  exact⟨o,λb' L=>by
   obtain⟨q,v,t,j,i⟩:=L;exact⟨q,v,t,(o b' ⟨q,v,t,j,i⟩).trans j,i⟩⟩
 refine⟨B,d,f,_,I,a.b.iB 3 (by omega) (fG _ _ _),e0,e2,ef _,W,⟨u.mk a.b (by decide),?_,a.done.C jn.ok (tl PW _ _ (by decide)),u.own a.B (by decide),xY a.j X _ _,Q.1,by simpa using a.im.2⟩,?_,Z.C lj.ok (tl jQ _ _ (by decide)),Q.2,by simpa using U⟩
 .rw[O]at N;rw[K,P];exact N
 rw[K];exact u.own aW (by decide)
theorem L3.fin (h:L3 w m fs lp n A c dc ls k b rs Ar cr rc rest ks Ac cc im hi wr)(d:gN k):L2 w m fs lp n A c (dc++[.int .i64 k,.bool b,Ar rs.length cr]) (ls++[⟨k,b,rs⟩]) [] rest ks Ac cc wr.heap.size wr:=by have a:=h.two.im;have e:Sl lj 6 wr (TR PW w.heap.size wr.heap.size wr) Ar rs:=Cf h.W (h.rT.mono lj.ok (TR.sub (by decide) a.1 h.tB.2)) (by decide) a.1 (by omega);refine⟨h.two.b,?_,(h.two.done.mono jn.ok (TR.sub (λ_ h=>h) (ae _) a.2)).append (Fl.one ⟨Ar,cr,rfl,d,e⟩ rfl),h.two.B,h.two.j,nt a.1 a.2,ae _⟩;have:=h.two.row;simpa using this
end
theorem L2.fin {w wr:World}{m:Nat}{fs:Nat->Value}{lp:Int}{n:Nat}{A:Option Addr}{c:Nat}{dc:List Value}{ls:List gH}{ks:List Int}{Ac:Option Addr}{cc im:Nat}(h:L2 w m fs lp n A c dc ls [] [] ks Ac cc im wr):ls.length=n/\Sl jn 3 wr (TR (ja::PW) w.heap.size wr.heap.size wr) A ls:=by
 have e:=h.row.1;have f:=h.done.1;simp only[pp,wV,tx,la,ln,f]at e;have a:ls.length=n:=by omega
 refine⟨a,?_⟩;subst a;have d:=h.row;simp only[pp,wV,tx]at d;exact Cf d (h.done.mono jn.ok (TR.sub (by decide) (ae _) h.im.2)) (by decide) (ae _) (by omega)
