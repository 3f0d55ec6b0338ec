/- Lemmas. -/
import Derived.Test.YtalehhjjbadlpaaGreatDoorX05
set_option linter.all false
set_option maxRecDepth 100000
set_option maxHeartbeats 32000000
namespace Go.Proofs.YtalehhjjbadlpaaGreatDoor
open Go.RowKit
variable(v:World){g:Nat}
abbrev qj:TypeId:=60
def ES (w:World)(m:Nat)(b:Nat->Value)(k:Nat)(e:Ending)(w':World):Prop:=∃(p:List Ins) (A:Option Addr) (c:Nat) (a:Int),nI p/\p.length<=k/\(0<=a/\a<=10)/\e=.returned (A p.length c)/\p.length<=c/\Sl ky 2 w' (TS [qj] w.heap.size w') A p/\Mk w' m b a/\Mv m w w'
theorem WV {p:List Ins}(h:nI p):∀i∈p,gN i.op/\gN i.a:=λi hi=>by
 obtain⟨a,b,c⟩:=h i hi;unfold N9 at c;unfold gN;omega
theorem gQ {w:World}{o:Nat->Value}{l:Int}{a:World}(f:Mk a g o l)(c:Mv g w a)(b:0<=l/\l<=10)(p:List Ins){k:Array Value}(m:k=(lG p).toArray)(d:nI p){n:Nat}(h:n=p.length)(i:n<=9):
  ES w g o 9 (.returned (.slice (a,0) n n)) (a.alloc (.cells k qj)):=by
 subst h m;have e:Below a a (a.alloc (.cells (lG p).toArray qj)):=(gD _ _).alloc (ae _) _;refine⟨p,_,_,l,d,i,b,rfl,ae _,?_,f.below e,lq c e⟩;have j:=yQ a a.heap.size qj 2 p.length (lG p).toArray (ae _) (by simp[Ds]) (by omega);exact dV j (by simpa using Nl _ _ p (WV d)) (by simp) c.size (by omega)
theorem aB {o a:Int}{p:List Ins}(h:1<=o/\o<=39/\N9 a)(k:nI p):nI (⟨o,a⟩::p):=λx hx=>by
 rw[lx]at hx;rcases hx with rfl|hx
 .exact h
 exact k x hx
theorem jk:nI []:=λ_ h=>by cases h
theorem TI (m:Nat)(b:Nat->Value)(c:Int)(n:Nat)(h:Mk v m b c)(a:n<=100000):Calls Tryz.prog 29 #[.pointer (m,0),.int .i64 ((n:Int)+1)] v (QX v m b c (n+1)):=aA v m b c (n+1) h (by omega) (by omega)
theorem n9s (x:Nat)(h:x<=1000000):N9 ((x:Int) - 100):=by unfold N9;omega
theorem gW (x:Nat)(h:x<=1000000):N9 (x:Int):=by unfold N9;omega
theorem Ja (m:Nat)(fs:Nat->Value)(lp:Int)(n r:Nat)(h:Mk v m fs lp)(s:0<=lp/\lp<=10)(hn:n<=1000)(aa:r<=1000):Calls Tryz.prog 74 #[.pointer (m,0),n,r] v (ES v m fs 9):=by
 have H:=J h;have d:=J s;clear h s;go_enter Tryz.func74,Tryz.ntmps74
 go_wp2_with fail
 refine(TI v m fs lp n H (by omega)).mono ?_;rintro e w1 ⟨p,hp,rfl,t,u⟩;have T:=J t;have U:=J u;clear t u H;go_wp2_with fail
 refine(TI w1 m fs lp n T (by omega)).mono ?_;rintro e w2 ⟨q,hq,rfl,w,A⟩;have V:=J w;have W:=J (iD U A);clear w A T U;go_wp2_with fail
 refine(aA w2 m fs lp 2 V (by omega) (by omega)).mono ?_;rintro e w3 ⟨a,ha,rfl,X,B⟩;have Y:=J X;have Z:=J (iD W B);clear X B V W;go_wp2_with fail
 refine(aA w3 m fs lp 12 Y (by omega) (by omega)).mono ?_;rintro e C ⟨z,hz,rfl,D,E⟩;have c:=J D;have f:=J (iD Z E);clear D E Y Z;have P9:=gW p (by omega);have Q9:=gW q (by omega);have A9:=gW a (by omega);have k:=J P9;have g:=J Q9;have K:=J A9;clear P9 Q9 A9;obtain⟨y,hy⟩:∃y:Int,(z:Int)=y:=⟨_,rfl⟩
 rw[hy];have M:y=0\/y=1\/y=2\/y=3\/y=4\/y=5\/y=6\/y=7\/y=8\/y=9\/y=10\/y=11:=by omega
 clear hy hz;rcases M with rfl|rfl|rfl|rfl|rfl|rfl|rfl|rfl|rfl|rfl|rfl|rfl
 .go_wp2_with fail
  go_ret
  exact gQ c f d [⟨22,(a:Int)⟩,⟨23,(a:Int)⟩] rfl (aB ⟨by decide,by decide,K⟩ (aB ⟨by decide,by decide,K⟩ jk)) rfl (by decide)
 .go_wp2_with fail
  refine(aA C m fs lp 6 c (by omega) (by omega)).mono ?_;rintro e L ⟨b,N,rfl,i,j⟩;have l:=J i;have o:=J (iD f j);clear i j;go_wp2_with fail
  go_ret
  exact gQ l o d [⟨24,(b:Int)⟩] rfl (aB ⟨by decide,by decide,gW b (by omega)⟩ jk) rfl (by decide)
 .go_wp2_with fail
  go_ret
  exact gQ c f d [⟨1,(p:Int)⟩,⟨1,(p:Int)⟩,⟨29,0⟩,⟨15,0⟩,⟨32,0⟩] rfl (aB ⟨by decide,by decide,k⟩ (aB ⟨by decide,by decide,k⟩ (aB ⟨by decide,by decide,gW 0 (by omega)⟩ (aB ⟨by decide,by decide,gW 0 (by omega)⟩ (aB ⟨by decide,by decide,gW 0 (by omega)⟩ jk))))) rfl (by decide)
 .go_wp2_with fail
  go_ret
  exact gQ c f d [⟨1,(p:Int)⟩,⟨1,(p:Int)⟩,⟨29,0⟩,⟨15,0⟩,⟨32,0⟩] rfl (aB ⟨by decide,by decide,k⟩ (aB ⟨by decide,by decide,k⟩ (aB ⟨by decide,by decide,gW 0 (by omega)⟩ (aB ⟨by decide,by decide,gW 0 (by omega)⟩ (aB ⟨by decide,by decide,gW 0 (by omega)⟩ jk))))) rfl (by decide)
 .go_wp2_with fail
  refine(aA C m fs lp 200 c (by omega) (by omega)).mono ?_;rintro e L ⟨b,N,rfl,i,j⟩;have l:=J i;have o:=J (iD f j);clear i j;go_wp2_with fail
  go_ret
  exact gQ l o d [⟨1,(p:Int)⟩,⟨1,(b:Int) - 100⟩,⟨31,0⟩] rfl (aB ⟨by decide,by decide,k⟩ (aB ⟨by decide,by decide,n9s b (by omega)⟩ (aB ⟨by decide,by decide,gW 0 (by omega)⟩ jk))) rfl (by decide)
 .go_wp2_with fail
  go_ret
  exact gQ c f d [⟨1,(p:Int)⟩,⟨1,(q:Int)⟩,⟨33,0⟩] rfl (aB ⟨by decide,by decide,k⟩ (aB ⟨by decide,by decide,g⟩ (aB ⟨by decide,by decide,gW 0 (by omega)⟩ jk))) rfl (by decide)
 .go_wp2_with fail
  go_ret
  exact gQ c f d [⟨34,(a:Int)⟩] rfl (aB ⟨by decide,by decide,K⟩ jk) rfl (by decide)
 .go_wp2_with fail
  go_ret
  exact gQ c f d [⟨1,(a:Int)⟩,⟨1,(q:Int)⟩,⟨25,0⟩,⟨1,3⟩,⟨5,0⟩,⟨26,0⟩] rfl (aB ⟨by decide,by decide,K⟩ (aB ⟨by decide,by decide,g⟩ (aB ⟨by decide,by decide,gW 0 (by omega)⟩ (aB ⟨by decide,by decide,gW 3 (by omega)⟩ (aB ⟨by decide,by decide,gW 0 (by omega)⟩ (aB ⟨by decide,by decide,gW 0 (by omega)⟩ jk)))))) rfl (by decide)
 .by_cases O:0<r
  .go_wp2_with fail
   refine(aA C m fs lp r c (by omega) (by omega)).mono ?_;rintro e L ⟨b,N,rfl,i,j⟩;have l:=J i;have o:=J (iD f j);clear i j;go_wp2_with fail
   go_ret
   exact gQ l o d [⟨37,(b:Int)⟩] rfl (aB ⟨by decide,by decide,gW b (by omega)⟩ jk) rfl (by decide)
  go_wp2_with fail
  go_ret
  exact gQ c f d [⟨39,0⟩,⟨1,16⟩,⟨17,0⟩,⟨36,2⟩,⟨1,(q:Int)⟩,⟨2,0⟩] rfl (aB ⟨by decide,by decide,gW 0 (by omega)⟩ (aB ⟨by decide,by decide,gW 16 (by omega)⟩ (aB ⟨by decide,by decide,gW 0 (by omega)⟩ (aB ⟨by decide,by decide,gW 2 (by omega)⟩ (aB ⟨by decide,by decide,g⟩ (aB ⟨by decide,by decide,gW 0 (by omega)⟩ jk)))))) rfl (by decide)
 .have qm:C.cell? (m,11)=some (.int .i64 lp):=c.cells.2;have ym:=c.frozen 11;by_cases O:0<r
  .by_cases ab:0<lp
   .have F:0<=lp - 1/\lp - 1<=10:=⟨by omega,by have:=d.2;omega⟩
    have P:=J F;have ac:=d.2;clear F;have HS:=J (c.set (lp':=lp - 1) (fs':=fs) 11 (.int .i64 (lp - 1)) (λ_ _ _ _=>rfl));have VS:=J (xX f (w':=C.setCell (m,11) (.int .i64 (lp - 1))) (aX (World.grownBy.refl _ _) (.inl rfl) _) (λx Q=> .inr (by injection Q with Q;exact Q.symm)));go_wp2_with fail
    refine(aA _ m fs (lp - 1) 5 (by exact HS) (by omega) (by omega)).mono ?_;rintro e L ⟨b,N,rfl,LZ,G⟩;have l:=J LZ;have o:=J (iD VS G);clear LZ G;go_wp2_with fail
    refine(aA L m fs (lp - 1) r l (by omega) (by omega)).mono ?_;rintro e w6 ⟨b2,ad,rfl,I,ak⟩;have R:=J I;have S:=J (iD o ak);clear I ak;go_wp2_with fail
    go_ret
    exact gQ R S P [⟨1,(b:Int)⟩,⟨38,(b2:Int)⟩] rfl (aB ⟨by decide,by decide,gW b (by omega)⟩ (aB ⟨by decide,by decide,gW b2 (by omega)⟩ jk)) rfl (by decide)
   go_wp2_with fail
   go_ret
   exact gQ c f d [⟨39,0⟩,⟨1,16⟩,⟨17,0⟩,⟨36,2⟩,⟨1,(q:Int)⟩,⟨2,0⟩] rfl (aB ⟨by decide,by decide,gW 0 (by omega)⟩ (aB ⟨by decide,by decide,gW 16 (by omega)⟩ (aB ⟨by decide,by decide,gW 0 (by omega)⟩ (aB ⟨by decide,by decide,gW 2 (by omega)⟩ (aB ⟨by decide,by decide,g⟩ (aB ⟨by decide,by decide,gW 0 (by omega)⟩ jk)))))) rfl (by decide)
  go_wp2_with fail
  go_ret
  exact gQ c f d [⟨39,0⟩,⟨1,16⟩,⟨17,0⟩,⟨36,2⟩,⟨1,(q:Int)⟩,⟨2,0⟩] rfl (aB ⟨by decide,by decide,gW 0 (by omega)⟩ (aB ⟨by decide,by decide,gW 16 (by omega)⟩ (aB ⟨by decide,by decide,gW 0 (by omega)⟩ (aB ⟨by decide,by decide,gW 2 (by omega)⟩ (aB ⟨by decide,by decide,g⟩ (aB ⟨by decide,by decide,gW 0 (by omega)⟩ jk)))))) rfl (by decide)
 .go_wp2_with fail
  go_ret
  exact gQ c f d [⟨1,(p:Int)⟩,⟨30,0⟩,⟨1,(q:Int)⟩,⟨29,0⟩,⟨16,0⟩,⟨36,3⟩,⟨1,(q:Int)⟩,⟨1,64⟩,⟨31,0⟩] rfl (aB ⟨by decide,by decide,k⟩ (aB ⟨by decide,by decide,gW 0 (by omega)⟩ (aB ⟨by decide,by decide,g⟩ (aB ⟨by decide,by decide,gW 0 (by omega)⟩ (aB ⟨by decide,by decide,gW 0 (by omega)⟩ (aB ⟨by decide,by decide,gW 3 (by omega)⟩ (aB ⟨by decide,by decide,g⟩ (aB ⟨by decide,by decide,gW 64 (by omega)⟩ (aB ⟨by decide,by decide,gW 0 (by omega)⟩ jk))))))))) rfl (by decide)
 go_wp2_with fail
 go_ret
 exact gQ c f d [⟨39,0⟩,⟨1,16⟩,⟨17,0⟩,⟨36,2⟩,⟨1,(q:Int)⟩,⟨2,0⟩] rfl (aB ⟨by decide,by decide,gW 0 (by omega)⟩ (aB ⟨by decide,by decide,gW 16 (by omega)⟩ (aB ⟨by decide,by decide,gW 0 (by omega)⟩ (aB ⟨by decide,by decide,gW 2 (by omega)⟩ (aB ⟨by decide,by decide,g⟩ (aB ⟨by decide,by decide,gW 0 (by omega)⟩ jk)))))) rfl (by decide)
section
attribute [-go_sem] Builtin.append_
abbrev ql:TypeId:=46
abbrev CE:TypeId:=196
abbrev QA:List TypeId:=[CE,aK]
structure nE (w:World)(m:Nat)(fs:Nat->Value)(lp:Int)(p:List Pt)(es:List Int)(A1:Option Addr)(c1:Nat)(A2:Option Addr)(c2:Nat)(wr:World):Prop where
 b:Mk wr m fs lp
 c:Bk wr w.heap.size ql #[(),()]
 var:Bk wr (w.heap.size+1) ql #[A1 p.length c1,A2 es.length c2]
 h:wr.ownsRow w.heap.size CE 3 (A1 p.length c1) p.length (Gh p)
 gO:wr.ownsRow w.heap.size aK 1 (A2 es.length c2) es.length (aC es)
 j:Mv m w wr
section
variable {w:World} {m:Nat} {fs:Nat->Value} {lp:Int} {p:List Pt} {es:List Int} {A1 A2:Option Addr} {c1 c2:Nat} {wr:World}
theorem nE.next (h:nE w m fs lp p es A1 c1 A2 c2 wr){d:World}(c:Mk d m fs lp)(b:Mv m wr d):nE w m fs lp p es A1 c1 A2 c2 d:=by have a:=Sp.next h.b b;exact⟨c,a.bk h.c (by decide),a.bk h.var (by decide),a.own h.h (by decide),a.own h.gO (by decide),iD h.j b⟩
theorem nE.drew (h:nE w m fs lp p es A1 c1 A2 c2 wr):nE w m fs lp p es A1 c1 A2 c2 wr.drew:=⟨h.b,h.c,h.var,h.h,h.gO,⟨h.j.os,h.j.tape,h.j.output,h.j.size,h.j.block⟩⟩
theorem nE.X' (h:nE w m fs lp p es A1 c1 A2 c2 wr)(i:m<w){l:World}{A:Option Addr}{c n:Nat}{x:Pt}(j:n=p.length+1)(f:wr.grownBy l (Value.slice A1 p.length c1).ownBlock)(k:l.ownsRow w.heap.size CE 3 (A n c) n (Gh p++ya x)):
  nE w m fs lp (p++[x]) es A c A2 c2 (l.setCell (w.heap.size+1,0) (A n c)):=by
 subst j;have d:Sp m CE wr l:=Sp.push h.h (by omega) f;have a:=d.bk h.var (by decide);have e:=lW h.j h.h (ae _) f;have b:Sp m ql l (l.setCell (w.heap.size+1,0) (A (p.length+1) c)):=Sp.set a (by omega) 0 _;have g:(p++[x]).length=p.length+1:=by simp
 refine⟨b.mk (d.mk h.b (by decide)) (by decide),(d.bk h.c (by decide)).I (by simp) _,?_,?_,b.own (d.own h.gO (by decide)) (by decide),xY e (by omega) _ _⟩
 .have:=a.set 0 (A (p.length+1) c);rw[g];exact this
 have:=b.own k (by decide);rw[g,JC];simpa [Gh]using this
theorem nE.ii (h:nE w m fs lp p es A1 c1 A2 c2 wr)(d:m<w){n:Nat}(j:p.length=n)(l:n<=1000)(e f:Int)(b:Bool):
  ∃q c5 a,(Builtin.append_ #[44,44] 44 #[A1 n c1,.slice (wr,0) 1 1]).run Tryz.prog (wr.alloc (.cells #[e,f,.bool b] CE))=.ok (.slice q (n+1) c5) a/\
   a.cell? (w.heap.size+1,0)=some (A1 n c1)/\a.frozen? (w.heap.size+1,0)=false/\nE w m fs lp (p++[⟨e,f,b⟩]) es q c5 A2 c2 (a.setCell (w.heap.size+1,0) (.slice q (n+1) c5)):=by
 subst j;obtain⟨q,c5,a,c,k,g,o⟩:=dJ wT 44 wr w.heap.size _ c1 A1 _ #[e,f,.bool b] rfl h.h (by simp[Value.oneCell']) (by omega) h.j.size;have i:=(Sp.push h.h (show m<=w.heap.size by omega) g).bk h.var (by decide);exact⟨q,c5,a,c,i.cell 0,i.frozen 0,h.X' d rfl g k⟩
theorem nE.ard (h:nE w m fs lp p es A1 c1 A2 c2 wr)(i:m<w){l:World}{A:Option Addr}{c n:Nat}{x:Int}(j:n=es.length+1)(f:wr.grownBy l (Value.slice A2 es.length c2).ownBlock)(k:l.ownsRow w.heap.size aK 1 (A n c) n (aC es++[.int .i64 x])):
  nE w m fs lp p (es++[x]) A1 c1 A c (l.setCell (w.heap.size+1,1) (A n c)):=by
 subst j;have d:Sp m aK wr l:=Sp.push h.gO (by omega) f;have a:=d.bk h.var (by decide);have e:=lW h.j h.gO (ae _) f;have b:Sp m ql l (l.setCell (w.heap.size+1,1) (A (es.length+1) c)):=Sp.set a (by omega) 1 _;have g:(es++[x]).length=es.length+1:=by simp
 refine⟨b.mk (d.mk h.b (by decide)) (by decide),(d.bk h.c (by decide)).I (by simp) _,?_,b.own (d.own h.h (by decide)) (by decide),?_,xY e (by omega) _ _⟩
 .have:=a.set 1 (A (es.length+1) c);rw[g];exact this
 have:=b.own k (by decide);rw[g];simpa [aC,cI]using this
theorem nE.fin (h:nE w m fs lp p es A1 c1 A2 c2 wr)(d:m<w)(f:∀x∈p,N9 x.x/\N9 x.y)(he:∀e∈es,gN e):
  Bk ((wr.setCell (w,0) (A1 p.length c1)).setCell (w,1) (A2 es.length c2)) w.heap.size ql #[A1 p.length c1,A2 es.length c2]/\
   Sl lr 3 ((wr.setCell (w,0) (A1 p.length c1)).setCell (w,1) (A2 es.length c2)) (TS QA w.heap.size ((wr.setCell (w,0) (A1 p.length c1)).setCell (w,1) (A2 es.length c2))) A1 p/\
   Sl gS 1 ((wr.setCell (w,0) (A1 p.length c1)).setCell (w,1) (A2 es.length c2)) (TS QA w.heap.size ((wr.setCell (w,0) (A1 p.length c1)).setCell (w,1) (A2 es.length c2))) A2 es/\
   Mk ((wr.setCell (w,0) (A1 p.length c1)).setCell (w,1) (A2 es.length c2)) m fs lp/\Mv m w ((wr.setCell (w,0) (A1 p.length c1)).setCell (w,1) (A2 es.length c2)):=by
 have c:=h.c.set 0 (A1 p.length c1);have g:=c.set 1 (A2 es.length c2);have a:Sp m ql wr (wr.setCell (w,0) (A1 p.length c1)):=Sp.set h.c (by omega) 0 _;have b:Sp m ql _ ((wr.setCell (w,0) (A1 p.length c1)).setCell (w,1) (A2 es.length c2)):=Sp.set c (by omega) 1 _;exact⟨g,dV (b.own (a.own h.h (by decide)) (by decide)) (SD _ _ p (λx i=>by have:=f x i;unfold N9 at this;unfold gN;omega)) (by decide) (ae _) (by omega),
  dV (b.own (a.own h.gO (by decide)) (by decide)) (jW _ _ es he) (by decide) (ae _) (by omega),
  b.mk (a.mk h.b (by decide)) (by decide),xY (xY h.j (ae _) _ _) (ae _) _ _⟩
end
theorem pP.ZD {k:Nat}{p:List Pt}{es:List Int}(h:pP k p es)(l:k<=1000):∀e∈es,gN e:=by
 have d:∀(es:List Int) f n,n<=100000->jM f es n->∀e∈es,gN e:=by
  intro es;induction es with
  |nil=>intro f n _ _ e he;simp at he
  |cons x o i=>
   intro f n j g e he;obtain⟨a,b,c⟩:=g;rw[lx]at he;rcases he with rfl|he
   .unfold gN;omega
   exact i _ _ j c e he
 exact d es 0 _ (by have:=h.i;omega) h.gO
theorem pM {fn:Func}{p:Tmp}{ty:TypeId}(h:fn.results=#[.cell p ty])(b:Array Value)(P:Program)(w:World):
  (results fn b).run P w=((asAddr (b.getD p undef)).run P w).andThen λa c=>((loadVar ty a).run P c):=by
 simp only[results,h];simp[Sem.run_bind,Result.andThen]
theorem Ow:(Tryz.prog.info? ql).map (·.size)=some 2:=by kernel_rfl
theorem Vu {W:World}{a b:Value}{c:Array Value}(d:Bk W g ql #[a,b])(e:c.getD 2 undef=.pointer (g,0)):(results Tryz.f75 c).run Tryz.prog W=.ok (.agg #[a,b]) W:=by rw[pM (fn:=Tryz.f75) (p:=2) (ty:=ql) rfl,e];have:=run_loadVar_row (P:=Tryz.prog) W g ql ql #[a,b] (0,0) _ d Tryz.underlying46 rfl (by rw[Ow];rfl);simp[asAddr,Result.andThen,this]
def LN (w:World)(m:Nat)(fs:Nat->Value)(lp:Int)(e:Ending)(w':World):Prop:=∃(k:Nat) (p:List Pt) (es:List Int) (A1:Option Addr) (c1:Nat) (A2:Option Addr) (c2:Nat),pP k p es/\k<=2/\e=.returned (.agg #[A1 p.length c1,A2 es.length c2])/\Sl lr 3 w' (TS QA w.heap.size w') A1 p/\Sl gS 1 w' (TS QA w.heap.size w') A2 es/\Mk w' m fs lp/\Mv m w w'
theorem jj (z:Int)(a: -1000000<=z)(b:z<=1000000):IntKind.i64.wrap z=z:=by simp[IntKind.wrap,IntKind.signed,IntKind.bits];omega
theorem NU (x:Nat)(h:x<21):N9 (IntKind.i64.wrap (IntKind.i64.wrap ((x:Int)*50) - 100))/\N9 (IntKind.i64.wrap (IntKind.i64.wrap ((x:Int)*50) - 200)):=by rw[jj ((x:Int)*50) (by omega) (by omega),jj ((x:Int)*50 - 100) (by omega) (by omega),jj ((x:Int)*50 - 200) (by omega) (by omega)];unfold N9;omega
theorem AI {q:List Pt}(h:q.length=g/\∀x∈q,N9 x.x/\N9 x.y){a c:Nat}(e:a<21)(f:c<21){b:Bool}:Hid ((q++[(⟨IntKind.i64.wrap (IntKind.i64.wrap ((a:Int)*50) - 100),IntKind.i64.wrap (IntKind.i64.wrap ((c:Int)*50) - 200),b⟩:Pt)]).length=g+1/\∀x∈q++[(⟨IntKind.i64.wrap (IntKind.i64.wrap ((a:Int)*50) - 100),IntKind.i64.wrap (IntKind.i64.wrap ((c:Int)*50) - 200),b⟩:Pt)],N9 x.x/\N9 x.y):=J ⟨by simp[h.1],λx d=>by
 rw[jp,js]at d;rcases d with d|rfl
 .exact h.2 x d
 exact⟨(NU a e).1,(NU c f).2⟩⟩
theorem YS (m:Nat)(fs:Nat->Value)(lp:Int)(h:Mk v m fs lp):Calls Tryz.prog 75 #[.pointer (m,0)] v (LN v m fs lp):=by
 have r:=h.lt;have H:=J h;clear h;go_enter Tryz.func75,Tryz.ntmps75
 go_wp2_with fail
 obtain⟨V,w⟩:∃V,(v.alloc (.cells #[(),()] ql)).alloc (.cells #[(),()] ql)=V:=⟨_,rfl⟩
 rw[w];have o:nE v m fs lp [] [] none 0 none 0 V:=by rw[<-w];have b1:Below v v ((v.alloc (.cells #[(),()] ql)).alloc (.cells #[(),()] ql)):=((gD _ _).alloc (ae _) _).alloc (by simp) _;refine⟨H.below b1,(Bk.new v _ _).alloc _,?_,World.ownsRow_nil _ _ _ _,World.ownsRow_nil _ _ _ _,lq (Ig m v) b1⟩;have:=Bk.new (v.alloc (.cells #[(),()] ql)) ql #[(),()];simpa using this
 have a:=J o;clear w o;refine(aA V m fs lp 3 a.b (by omega) (by omega)).mono ?_;rintro e w1 ⟨x,hx,rfl,E,F⟩;have X:=J (a.next E F);clear E F a;go_wp2_with fail
 go_loopw [5] (λi wr=>∃(k:Nat) (p:List Pt) (es:List Int) (A1:Option Addr) (c1:Nat) (A2:Option Addr) (c2:Nat),k<=x/\i=.int .i64 k/\Hid (pP k p es)/\nE v m fs lp p es A1 c1 A2 c2 wr) (λi _=>x - (intOf i).toNat)
 case atStart=>exact⟨0,[],[],none,0,none,0,nz _,rfl,J pP.nil,X⟩
 case round=>
  obtain⟨z,rfl⟩:∃x,x=wr:=⟨_,rfl⟩
  obtain⟨k,p,es,A1,c1,A2,c2,hk,rfl,b,o⟩:=hrel;have a:=J o;clear o;by_cases ac:k<x
  .go_wp2_with fail
   refine(aA z m fs lp 4 a.b (by omega) (by omega)).mono ?_;rintro e w2 ⟨y,hy,rfl,G,I⟩;have Y:=J (a.next G I);clear G I a;go_wp2_with fail
   go_loopw [7] (λi wr=>∃(j:Nat) (q:List Pt) (A:Option Addr) (c:Nat),j<=2+y/\i=.int .i64 j/\Hid (q.length=j/\∀x∈q,N9 x.x/\N9 x.y)/\nE v m fs lp (p++q) es A c A2 c2 wr) (λi _=>2+y - (intOf i).toNat)
   case atStart=>exact⟨0,[],A1,c1,nz _,rfl,J (by simp),by simpa using Y.out⟩
   case round=>
    obtain⟨ao,rfl⟩:∃x,x=wr:=⟨_,rfl⟩
    obtain⟨j,q,A,c,hj,rfl,D,o⟩:=hrel;have d:=J o;have q0:ao.cell? (v.heap.size+1,0)=some (A (p.length+q.length) c):=by rw[<-la];exact o.var.cell 0
    clear o;have K:v.heap.size+1≠m:=by omega
    have ad:p.length+q.length<=100:=by have:=b.i;have:=D.1;omega
    by_cases ab:j<2+y
    .by_cases Z:j=0
     .have ej:(j:Int)=0:=by omega
      rw[ej];clear ej;go_wp2_with fail
      have L:True:=trivial;have M:True:=trivial
      first|(go_region_with (first
       |(go_at_call 29;have _t:=L;refine(aA _ m fs lp 21 (by exact d.b) (by omega) (by omega)).mono ?_;rintro e w3 ⟨N,B,rfl,O,f⟩;have q3:=dW f K q0;clear _t L)
       |(go_at_call 29;have _t:=M;refine(aA _ m fs lp 21 (by exact O) (by omega) (by omega)).mono ?_;rintro e w4 ⟨P,C,rfl,s,g⟩;have q4:=dW g K q3;have t:=(d.drew.next O f).next s g;have z4:v.heap.size+1<w4.heap.size:=t.var.lt;obtain⟨Q,R,W,S,x9,y9,l⟩:=t.ii r (n:=p.length+q.length) (by rw[la]) (by omega) (IntKind.i64.wrap (IntKind.i64.wrap ((N:Int)*50) - 100)) (IntKind.i64.wrap (IntKind.i64.wrap ((P:Int)*50) - 200)) true;have T:=J l;clear _t M t l)))|fail
      all_goals
       go_wp2_with fail
       go_roundw
       case rel=>exact⟨j+1,q++[⟨IntKind.i64.wrap (IntKind.i64.wrap ((N:Int)*50) - 100),IntKind.i64.wrap (IntKind.i64.wrap ((P:Int)*50) - 200),true⟩],Q,R,by omega,by simp[Z],AI D B C,by have h:=T.out;rwa [mL]at h⟩
       case measure=>first|(simp[intOf];done)|(simp[intOf];omega)
     have ej:((j:Int)==0)=false:=by simp;omega
     go_wp2_with fail
     have L:True:=trivial;have M:True:=trivial;have Gy:True:=trivial
     first|(go_region_with (first
      |(go_at_call 29;have _t:=L;refine(aA _ m fs lp 21 (by exact d.b) (by omega) (by omega)).mono ?_;rintro e w3 ⟨N,B,rfl,O,f⟩;have q3:=dW f K q0;clear _t L)
      |(go_at_call 29;have _t:=M;refine(aA _ m fs lp 21 (by exact O) (by omega) (by omega)).mono ?_;rintro e w4 ⟨P,C,rfl,s,g⟩;have q4:=dW g K q3;clear _t M)
      |(go_at_call 29;have _t:=Gy;refine(aA _ m fs lp 4 (by exact s) (by omega) (by omega)).mono ?_;rintro e w5 ⟨x3,ak,rfl,LZ,U⟩;have q5:=dW U K q4;have u:=((d.drew.next O f).next s g).next LZ U;have z5:v.heap.size+1<w5.heap.size:=u.var.lt;obtain⟨Q,R,W,S,x9,y9,l⟩:=u.ii r (n:=p.length+q.length) (by rw[la]) (by omega) (IntKind.i64.wrap (IntKind.i64.wrap ((N:Int)*50) - 100)) (IntKind.i64.wrap (IntKind.i64.wrap ((P:Int)*50) - 200)) (decide (0<x3));have T:=J l;clear _t Gy u l)))|fail
     all_goals
      go_wp2_with fail
      go_roundw
      case rel=>exact⟨j+1,q++[⟨IntKind.i64.wrap (IntKind.i64.wrap ((N:Int)*50) - 100),IntKind.i64.wrap (IntKind.i64.wrap ((P:Int)*50) - 200),decide (0<x3)⟩],Q,R,by omega,by simp,AI D B C,by have h:=T.out;rwa [mL]at h⟩
      case measure=>first|(simp[intOf];done)|(simp[intOf];omega)
    obtain rfl:j=2+y:=by omega
    have KF:Hid (pP (k+1) (p++q) (es++[((p.length+q.length:Nat):Int) - 1])):=J (b.snoc D.2 (by have:=D.1;omega) (by have:=D.1;omega) rfl);have aa:es.length=k:=b.i.2;have al:es.length<=10:=by omega
    have q1:ao.cell? (v.heap.size+1,1)=some (A2 es.length c2):=d.var.cell 1;clear aa;go_wp2_with (at_builtin;refine jr iw rfl (.tmp 45) (.tmp 50) rfl ao ao.heap.size rfl v.heap.size es.length c2 A2 (aC es) #[.int .i64 ((p.length:Int)+q.length - 1)] rfl rfl rfl d.gO (by simp[Value.oneCell']) (by omega) d.j.size ?_;intro Q R W h9 g9 l9;have T:=J (d.ard r rfl g9 h9);have OG:=(Sp.push d.gO (show m<=v.heap.size by omega) g9).bk d.var (by decide);have x9:W.cell? (v.heap.size+1,1)=some (A2 es.length c2):=OG.cell 1;have y9:W.frozen? (v.heap.size+1,1)=false:=OG.frozen 1;clear h9 g9 l9 OG)
    go_roundw
    case rel=>exact⟨k+1,p++q,es++[((p.length+q.length:Nat):Int) - 1],A,c,Q,R,by omega,by simp,KF,by have h:=T.out;simpa using h⟩
    case measure=>simp[intOf];omega
  have HF:=J a.fin;have HE:=J (b.ZD (by omega));have v0:z.cell? (v.heap.size+1,0)=some (A1 p.length c1):=a.var.cell 0;have v1:z.cell? (v.heap.size+1,1)=some (A2 es.length c2):=a.var.cell 1;have r0:z.cell? (v,0)=some (.slice none 0 0):=a.c.cell 0;have r1:z.cell? (v,1)=some (.slice none 0 0):=a.c.cell 1;have f0:z.frozen? (v,0)=false:=a.c.frozen 0;have f1:z.frozen? (v,1)=false:=a.c.frozen 1;go_wp2_with fail
  obtain⟨g1,g2,g3,g4,g5⟩:=HF r (λx hx=>b.h x hx) HE;exact bodyPost_ret (Vu g1 rfl) rfl ⟨k,p,es,A1,c1,A2,c2,b,by omega,rfl,g2,g3,g4,g5⟩
