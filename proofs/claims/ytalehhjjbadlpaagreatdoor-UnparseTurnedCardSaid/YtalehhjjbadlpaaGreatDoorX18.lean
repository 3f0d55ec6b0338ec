/- Lemmas. -/
import Derived.Test.YtalehhjjbadlpaaGreatDoorX17
set_option linter.all false
set_option maxRecDepth 100000
set_option maxHeartbeats 32000000
namespace Go.Proofs.YtalehhjjbadlpaaGreatDoor
open Go.RowKit
variable{w f:World}{b g K:Nat}(v:World){a:List Value}{A:Option Addr}{j:List (List Int)}{e:List (List P3)}{l:List B}{m:Rows}{x y:Int}{G:Gl}{t:TypeId}{s:PS}{d:Value}{α:Type}{u:gH}
section
open Go.Shelf Go.Sort
def Hw:iu:=⟨1000,[⟨[46,110,111,116,100,101,102],500,false,[],[],[],[],[],[]⟩],[],[⟨1,false,[⟨[],[[0]],[],[0],[],0⟩]⟩],[],[],[],[],[]⟩
def Qy:iu:=⟨16,[],[],[],[],[],[],[[⟨1,5⟩,⟨2,0⟩]],[]⟩
theorem RM:ag 1000=[49,48,48,48]:=by simp[ag,Lib.itoa,Lib.decDigits]
theorem UP:ag 500=[53,48,48]:=by simp[ag,Lib.itoa,Lib.decDigits]
theorem Vi:ag 16=[49,54]:=by simp[ag,Lib.itoa,Lib.decDigits]
theorem it5:ag 5=[53]:=by simp[ag,Lib.itoa,Lib.decDigits]
theorem Wj:mD Hw=[117,110,105,116,32,49,48,48,48,10,103,108,121,112,104,32,46,110,111,116,100,101,102,32,53,48,48,10,108,111,111,107,117,112,32,115,105,110,103,108,101,10,114,117,108,101,32,47,32,46,110,111,116,100,101,102,32,47,32,62,32,46,110,111,116,100,101,102,10]:=by simp[mD,Hw,aJ,gy,eF,fV,eu,qF,DR,di,lz,dK,j',RM,UP];decide
theorem Wn:mD Qy=[117,110,105,116,32,49,54,10,102,117,110,99,32,112,117,115,104,58,53,32,112,111,112,10]:=by simp[mD,Qy,aJ,gy,iL,dO,Vi,it5];decide
def BH (w:World)(l:List Obj):World:=l.foldl World.alloc w
theorem EW (l:List Obj):∀w:World,Below w w (BH w l):=by
 induction l with
 |nil=>intro w;exact gD _ _
 |cons o l a=>intro w;exact((gD _ _).alloc (ae _) o).trans ((a (w.alloc o)).mono (by simp))
theorem jF (l:List Obj)(k:Nat):(BH v l).heap[v.heap.size+k]?=l[k]? :=by
 induction l generalizing v k with
 |nil=>simp[BH]
 |cons o l a=>
  show(BH (v.alloc o) l).heap[v.heap.size+k]?=_;cases k with
  |zero=>rw[(EW l (v.alloc o)).block _ (by simp)];exact heap_alloc_new v o
  |succ k=>have:=a (v.alloc o) k;rw[World.size_alloc]at this;rw[show v.heap.size+(k+1)=v.heap.size+1+k by omega,this];rfl
theorem Sl.lit {R:Rel α}{h:Array Value}{i:List α}(a:Bk w b t h)(c:t≠5)(d:t≠108)(e:Fl R g w (FT w) h.toList i):Sl R g w (FT w) (b,0) i:=⟨h.toList,e,λ_=>⟨b,0,rfl,Hy a c d,λj u f=>by rw[mU,a.cell];simpa using f⟩⟩
theorem YB:gN 0:=gN.small (by decide) (by decide)
theorem Y1 (D:iN v)(hG:nG<=v.heap.size):Calls Tryz.prog 8 #[] v λe d=>e=.returned (.bool true)/\Below v.heap.size v d:=by
 go_enter Tryz.func8,Tryz.ntmps8
 go_wp2_with fail
 change Calls _ _ _ (BH v [.cells #[.string ⟨#[46,110,111,116,100,101,102]⟩,.int .i64 500,.bool false,(),(),(),(),(),()] 52,.cells #[.int .i64 0] 3,.cells #[.slice (some ⟨v.heap.size+1,0,none⟩) 1 1] 22,.cells #[.int .i64 0] 3,.cells #[(),.slice (some ⟨v.heap.size+2,0,none⟩) 1 1,(),.slice (some ⟨v.heap.size+3,0,none⟩) 1 1,(),.int .i64 0] 69,.cells #[.int .i64 1,.bool false,.slice (some ⟨v.heap.size+4,0,none⟩) 1 1] 65,.cells #[.int .i64 1000,.slice (some ⟨v.heap.size,0,none⟩) 1 1,(),.slice (some ⟨v.heap.size+5,0,none⟩) 1 1,(),(),(),(),()] 32,.cells #[.int .i64 1,.int .i64 5,.int .i64 2,.int .i64 0] 60,.cells #[.slice (some ⟨v.heap.size+7,0,none⟩) 2 2] 50,.cells #[.int .i64 16,(),(),(),(),(),(),.slice (some ⟨v.heap.size+8,0,none⟩) 1 1,()] 32]) _;obtain⟨W,b⟩:∃W,BH v [.cells #[.string ⟨#[46,110,111,116,100,101,102]⟩,.int .i64 500,.bool false,(),(),(),(),(),()] 52,.cells #[.int .i64 0] 3,.cells #[.slice (some ⟨v.heap.size+1,0,none⟩) 1 1] 22,.cells #[.int .i64 0] 3,.cells #[(),.slice (some ⟨v.heap.size+2,0,none⟩) 1 1,(),.slice (some ⟨v.heap.size+3,0,none⟩) 1 1,(),.int .i64 0] 69,.cells #[.int .i64 1,.bool false,.slice (some ⟨v.heap.size+4,0,none⟩) 1 1] 65,.cells #[.int .i64 1000,.slice (some ⟨v.heap.size,0,none⟩) 1 1,(),.slice (some ⟨v.heap.size+5,0,none⟩) 1 1,(),(),(),(),()] 32,.cells #[.int .i64 1,.int .i64 5,.int .i64 2,.int .i64 0] 60,.cells #[.slice (some ⟨v.heap.size+7,0,none⟩) 2 2] 50,.cells #[.int .i64 16,(),(),(),(),(),(),.slice (some ⟨v.heap.size+8,0,none⟩) 1 1,()] 32]=W:=⟨_,rfl⟩
 rw[b];have k:Below v.heap.size v W:=by rw[<-b];exact EW _ _
 have L:Bk W (v.heap.size+0) 52 #[.string ⟨#[46,110,111,116,100,101,102]⟩,.int .i64 500,.bool false,(),(),(),(),(),()]:=by rw[<-b];exact jF v _ 0
 have M:Bk W (v.heap.size+1) 3 #[.int .i64 0]:=by rw[<-b];exact jF v _ 1
 have N:Bk W (v.heap.size+2) 22 #[.slice (some ⟨v.heap.size+1,0,none⟩) 1 1]:=by rw[<-b];exact jF v _ 2
 have O:Bk W (v.heap.size+3) 3 #[.int .i64 0]:=by rw[<-b];exact jF v _ 3
 have P:Bk W (v.heap.size+4) 69 #[(),.slice (some ⟨v.heap.size+2,0,none⟩) 1 1,(),.slice (some ⟨v.heap.size+3,0,none⟩) 1 1,(),.int .i64 0]:=by rw[<-b];exact jF v _ 4
 have Q:Bk W (v.heap.size+5) 65 #[.int .i64 1,.bool false,.slice (some ⟨v.heap.size+4,0,none⟩) 1 1]:=by rw[<-b];exact jF v _ 5
 have K6:Bk W (v.heap.size+6) 32 #[.int .i64 1000,.slice (some ⟨v.heap.size,0,none⟩) 1 1,(),.slice (some ⟨v.heap.size+5,0,none⟩) 1 1,(),(),(),(),()]:=by rw[<-b];exact jF v _ 6
 have S:Bk W (v.heap.size+7) 60 #[.int .i64 1,.int .i64 5,.int .i64 2,.int .i64 0]:=by rw[<-b];exact jF v _ 7
 have T:Bk W (v.heap.size+8) 50 #[.slice (some ⟨v.heap.size+7,0,none⟩) 2 2]:=by rw[<-b];exact jF v _ 8
 have U:Bk W (v.heap.size+9) 32 #[.int .i64 16,(),(),(),(),(),(),.slice (some ⟨v.heap.size+8,0,none⟩) 1 1,()]:=by rw[<-b];exact jF v _ 9
 have o:Bk W v.heap.size 52 #[.string ⟨#[46,110,111,116,100,101,102]⟩,.int .i64 500,.bool false,(),(),(),(),(),()]:=L;clear b;have z0:=k.size;have E:=D.all k;have p:nG<=W.heap.size:=nt hG z0;have V:Sl iA 9 W (FT W) (some ⟨v.heap.size,0,none⟩) Hw.ga:=Sl.lit o (by decide) (by decide) (Fl.one ⟨none,0,none,0,none,0,none,0,none,0,none,0,rfl,gN.small (by decide) (by decide),Sl.nil,Sl.nil,Sl.nil,Sl.nil,Sl.nil,Sl.nil⟩ rfl);have q:Sl gS 1 W (FT W) (some ⟨v.heap.size+1,0,none⟩) [0]:=Sl.lit M (by decide) (by decide) (Fl.one ⟨rfl,YB⟩ rfl);have r:Sl gT 1 W (FT W) (some ⟨v.heap.size+2,0,none⟩) [[0]]:=Sl.lit N (by decide) (by decide) (Fl.one ⟨_,_,rfl,q⟩ rfl);have s:Sl gS 1 W (FT W) (some ⟨v.heap.size+3,0,none⟩) [0]:=Sl.lit O (by decide) (by decide) (Fl.one ⟨rfl,YB⟩ rfl);have t:Sl lj 6 W (FT W) (some ⟨v.heap.size+4,0,none⟩) [⟨[],[[0]],[],[0],[],0⟩]:=Sl.lit P (by decide) (by decide) (Fl.one ⟨none,0,_,_,none,0,_,_,none,0,rfl,YB,Sl.nil,r,Sl.nil,s,Sl.nil⟩ rfl);have X:Sl jn 3 W (FT W) (some ⟨v.heap.size+5,0,none⟩) Hw.ge:=Sl.lit Q (by decide) (by decide) (Fl.one ⟨_,_,rfl,gN.small (by decide) (by decide),t⟩ rfl);have u:∀g∈Hw.ga,g.gk.length<=1000000000/\g.gO.length<=1000000000:=by decide
 have l:=Nv W Hw (some ⟨v.heap.size,0,none⟩) none (some ⟨v.heap.size+5,0,none⟩) none none none none none 1 0 1 0 0 0 0 0 E p (gN.small (by decide) (by decide)) V Sl.nil X Sl.nil Sl.nil Sl.nil Sl.nil Sl.nil u (by rw[Wj];decide);rw[Wj]at l;refine(show Calls _ _ _ _ _ from l).mono ?_;rintro e a ⟨rfl,c⟩;have Y:=bt k c;have F:=D.all Y;have Z:=S.below c;have J8:=T.below c;have f:=U.below c;have z1:=c.size;have w:Sl ky 2 a (FT a) (some ⟨v.heap.size+7,0,none⟩) [⟨1,5⟩,⟨2,0⟩]:=Sl.lit Z (by decide) (by decide) ((Fl.one (R:=ky) ⟨rfl,gN.small (by decide) (by decide),gN.small (by decide) (by decide)⟩ rfl).append (Fl.one ⟨rfl,gN.small (by decide) (by decide),YB⟩ rfl));have x:Sl kx 1 a (FT a) (some ⟨v.heap.size+8,0,none⟩) Qy.fY:=Sl.lit J8 (by decide) (by decide) (Fl.one ⟨_,_,rfl,w⟩ rfl);have m:=Nv a Qy none none none none none none (some ⟨v.heap.size+8,0,none⟩) none 0 0 0 0 0 0 1 0 F (nt p z1) (gN.small (by decide) (by decide)) Sl.nil Sl.nil Sl.nil Sl.nil Sl.nil Sl.nil x Sl.nil (by decide) (by rw[Wn];decide);rw[Wn]at m;have G:=J m;have j0:a.cell? ⟨v.heap.size+9,0,none⟩=some (.int .i64 16):=f.cell 0;have j1:a.cell? ⟨v.heap.size+9,1,none⟩=some (.slice none 0 0):=f.cell 1;have j2:a.cell? ⟨v.heap.size+9,2,none⟩=some (.slice none 0 0):=f.cell 2;have j3:a.cell? ⟨v.heap.size+9,3,none⟩=some (.slice none 0 0):=f.cell 3;have j4:a.cell? ⟨v.heap.size+9,4,none⟩=some (.slice none 0 0):=f.cell 4;have j5:a.cell? ⟨v.heap.size+9,5,none⟩=some (.slice none 0 0):=f.cell 5;have j6:a.cell? ⟨v.heap.size+9,6,none⟩=some (.slice none 0 0):=f.cell 6;have j7:a.cell? ⟨v.heap.size+9,7,none⟩=some (.slice (some ⟨v.heap.size+8,0,none⟩) 1 1):=f.cell 7;have j8:a.cell? ⟨v.heap.size+9,8,none⟩=some (.slice none 0 0):=f.cell 8;have y:nK 39=[115,105,122,101]:=by decide
 have i:nK 0=[63]:=by decide
 have z:nK 40=[63]:=by decide
 clear m l V q r s t X u w x Z J8 f L o M N O P Q K6 S T U;have H:Hid (∀v,iN v->Calls Tryz.prog 15 #[.int .i64 39] v λe d=>e=.returned (.string ⟨#[115,105,122,101]⟩)/\v=d):=λv h=>by have:=Qz v 39 h;rw[y]at this;exact this
 have I:Hid (∀v,iN v->Calls Tryz.prog 15 #[.int .i64 0] v λe d=>e=.returned (.string ⟨#[63]⟩)/\v=d):=λv h=>by have:=Qz v 0 h;rw[i]at this;exact this
 have aa:Hid (∀v,iN v->Calls Tryz.prog 15 #[.int .i64 40] v λe d=>e=.returned (.string ⟨#[63]⟩)/\v=d):=λv h=>by have:=Qz v 40 h;rw[z]at this;exact this
 clear y i z;go_wp2_with fail
 refine(show Calls _ _ _ _ _ from G.out).mono ?_;rintro e w2 ⟨rfl,K⟩;have j:=bt Y K;have n:=D.all j;have A:True:=trivial;have tk:True:=trivial;have C:True:=trivial;go_wp2_with (first
  |(go_at_call 15;have _t:=A;refine(H _ n).mono ?_;rintro e d ⟨rfl,rfl⟩;clear _t A)
  |(go_at_call 15;have _t:=tk;refine(I _ n).mono ?_;rintro e d ⟨rfl,rfl⟩;clear _t tk)
  |(go_at_call 15;have _t:=C;refine(aa _ n).mono ?_;rintro e d ⟨rfl,rfl⟩;clear _t C))
 go_ret
 exact⟨rfl,j⟩
end
section
attribute [-go_sem] Builtin.append_
theorem Da (C b p:Nat)(a:Int)(r s t:Value)(A:Option Addr)(n c:Nat)(N:List P3)(l:Bk v C oU #[r,s,t,(),(),.int .i64 0])(u:i8 v b p a)(y:i7 v fE A n 3 (dP N))(z:∀x∈N,x.2.2.length<=800000000)(E:n<=1000000000):
  Calls Tryz.prog 106 #[.pointer (b,0),.int .i64 4,A n c,.pointer (C,0)] v λe F=>e=.returned (.tuple #[])/\pE v C b p r s t ((af N).foldl oI a) [] ((af N).map mZ) 0 F:=by
 have i:b≠C:=λe=>by
  subst e;have:=(dw u l).1
  revert this
  decide
 have j:((af N).map mZ).length=n:=by rw[lE,ji];exact y.rd.Z
 have d:=J (Hk v b p a A n c N u y z E);have G:=J l;generalize (af N).foldl oI a=I at*
 generalize (af N).map mZ=H at*
 have k:=J j;clear l u y z j;go_enter Tryz.func106,Tryz.ntmps106
 go_wp2_with fail
 refine d.mono ?_;rintro e m ⟨w,rfl,o,q,rfl,B,D,f⟩;have h:Bk m C oU _:=Bk.L f G (λe=>i e.symm);have L:m.cell? (C,4)=some (.slice none 0 0):=h.cell 4;have M:=h.frozen 4;have K:Hid (pE v C b p r s t I [] H 0 (m.setCell (C,4) (o n q))):=by
  refine⟨⟨none,0,o,q,?_,World.ownsRow_nil _ _ _ _,?_⟩,Bk.I D (by simpa using i) _,((oe.refl v b C).grown f (λg e=>by cases e;exact .inr (.inl rfl))).grown (fZ m (C,4) _) (λg e=>by cases e;exact .inr (.inr rfl))⟩
  .have:=h.set 4 (o n q);rw[k.out];exact this
  have:=uf B h (by decide) 4 (o n q);rw[k.out];exact this
 clear B D f h;go_wp2
 go_end0
 exact⟨rfl,K⟩
theorem I0 (C d p:Nat)(a:Int)(u w D:Value)(A:Option Addr)(n c:Nat)(R:List P3)(r:Bk v C oU #[u,w,D,(),(),.int .i64 0])(E:i8 v d p a)(F:i7 v fE A n 3 (dP R))(H:∀x∈R,x.2.2.length<=800000000){t:B}(G:af R=[t]):
  Calls Tryz.prog 106 #[.pointer (d,0),.int .i64 6,A n c,.pointer (C,0)] v λe Q=>e=.returned (.tuple #[])/\pE v C d p u w D (aP a t) [] [] (aI t) Q:=by
 have j:d≠C:=λe=>by
  subst e;have:=(dw E r).1
  revert this
  decide
 obtain rfl:n=1:=by have:=ji R;rw[G]at this;have T:=F.rd.Z;simp only[aV,ln]at this;omega
 obtain⟨b,o,x,y,z,rfl,K,f,L,M,N⟩:=F.rd.rB (k:=0) (by omega);have O:z=t:=by have:=congrArg (λl=>l[0]?) G;simp only[af,po,f.out,Option.map_some]at this;simpa using this
 subst O;have m:z.length<=800000000:=H _ (kj f);have h:=J (eG v d p a z E m);have P:=J r
 clear r E F H G f L M m;go_enter Tryz.func106,Tryz.ntmps106
 go_wp2_with fail
 refine h.mono ?_;rintro e s ⟨rfl,I,i⟩;have q:Bk s C oU _:=Bk.L i P (λe=>j e.symm);have U:s.cell? (C,5)=some (.int .i64 0):=q.cell 5;have V:=q.frozen 5;have S:Hid (pE v C d p u w D (aP a z) [] [] (aI z) (s.setCell (C,5) (.int .i64 (aI z)))):=⟨⟨none,0,none,0,q.set 5 _,World.ownsRow_nil _ _ _ _,World.ownsRow_nil _ _ _ _⟩,Bk.I I (by simpa using j) _,((oe.refl v d C).grown i (λg e=>by cases e;exact .inr (.inl rfl))).grown (fZ s (C,5) _) (λg e=>by cases e;exact .inr (.inr rfl))⟩
 clear I i q;go_wp2
 go_end0
 exact⟨rfl,S⟩
theorem IT (C b p:Nat)(D a:Int)(d f g:Value)(A:Option Addr)(n c:Nat)(h:Bk v C oU #[d,f,g,(),(),.int .i64 0])(i:i8 v b p a)(r:D≠1/\D≠2/\D≠3/\D≠5/\D≠4/\D≠6):
  Calls Tryz.prog 106 #[.pointer (b,0),D,A n c,.pointer (C,0)] v λe s=>e=.returned (.tuple #[])/\pE v C b p d f g a [] [] 0 s:=by
 obtain⟨j,k,l,m,o,q⟩:=r;have u:(D==1)=false:=by simpa using j
 have w:(D==2)=false:=by simpa using k
 have x:(D==3)=false:=by simpa using l
 have y:(D==4)=false:=by simpa using o
 have z:(D==5)=false:=by simpa using m
 have B:(D==6)=false:=by simpa using q
 have t:Hid (pE v C b p d f g a [] [] 0 v):=⟨⟨none,0,none,0,h,World.ownsRow_nil _ _ _ _,World.ownsRow_nil _ _ _ _⟩,i,oe.refl _ _ _⟩
 clear h i j k l o m q;go_enter Tryz.func106,Tryz.ntmps106
 go_wp2
 go_end0
 exact⟨rfl,t⟩
def zN (l:List Int):Int->Option Value:=λx=>if x∈l then some (.int .i64 (l.idxOf x:Nat))else none
theorem M6:zN []=λ_=>none:=by funext x;simp[zN]
theorem Jx (l:List Int)(y:Int)(h:y ∉ l):zN (l++[y])=λx=>if x=y then some (.int .i64 (l.length:Nat))else zN l x:=by
 funext x
 unfold zN;by_cases a:x=y
 .subst a;rw[if_pos (by simp),if_pos rfl,List.idxOf_append,if_neg h];simp
 rw[if_neg a];by_cases b:x∈l
 .rw[if_pos (by simp[b]),if_pos b,List.idxOf_append,if_pos b]
 rw[if_neg (by simp[b,a]),if_neg b]
theorem On:(Tryz.prog.info? 3).map (λi=>(i.zero,i.size,i.bytes))=some (some (.int .i64 0),1,8):=by kernel_rfl
theorem MP {l:List Int}{k:Nat}(h:l[k]?=some x):l.take (k+1)=l.take k++[x]:=by rw[pm,h];rfl
theorem QC:(zeroValue 3).run Tryz.prog v=.ok (.int .i64 0) v:=by kernel_rfl
theorem RT (n:Int)(w:World):(Instr.makeMap 224 (some (.int .i64 n))).run Tryz.prog w=.ok (.map (some w.heap.size)) (w.alloc (.map #[] 0)):=by simp[Instr.makeMap,run_underlying Tryz.underlying224,asInt,Result.andThen,newObj,go_sem];rfl
def ua (w:World)(r:Except Int (List Int))(e:Ending)(w':World):Prop:=
 Below w w w'/\match r with
  | .error c=>e=.returned (.tuple #[(),c])
  | .ok o=>∃a b,e=.returned (.tuple #[.slice a o.length b,.int .i64 0])/\w'.ownsRow w.heap.size 3 1 (.slice a o.length b) o.length (aC o)
def Gf (l a:List Int)(g:Int):Int:=a.getD (l.idxOf g) 0
theorem YN {n c:Nat}{f:Int->Option Value}(h:j9 Ns w b f)(i:w.ownsRow g 3 1 (A n c) n a):some b≠(Value.slice A n c).ownBlock:=λe=>by
 obtain⟨M,d⟩:=dY i e.symm;exact h.rp d
theorem Zw (A1 A2 A3:Option Addr)(t u F c1 c2 c3:Nat)(l z nm:List Int)(N:z=setOf l)(h1:Rd v v.heap.size A1 t 1 (aC l))(h2:Rd v v.heap.size A2 u 1 (aC z))(h3:Rd v v.heap.size A3 F 1 (aC nm))(k1:t<=1000000000)(k2:u<=1000000000)(k3:F<=1000000000):
  Calls Tryz.prog 107 #[A1 t c1,A2 u c2,A3 F c3] v (ua v (gz l nm)):=by
 have O:=J h1.vB;have l2:=J h2.vB;have l3:=J h3.vB;have R1:=J h1;have R2:=J h2;have R3:=J h3;have P:=J N;obtain⟨i0,hi,aa,ab,ac⟩:=info_parts On;have ar:=RT t;clear h1 h2 h3 N;go_enter Tryz.func107,Tryz.ntmps107
 go_wp2_with fail
 go_loopw [21] (λi wr=>∃k:Nat,k<=t/\i=.int .i64 k/\j9 Ns wr v.heap.size (zN (l.take k))/\(l.take k).Nodup/\Below v v wr) (λi _=>t - (intOf i).toNat)
 case atStart=>exact⟨0,nz _,rfl,by rw[List.take_zero,M6];exact j9.new Ns v,by simp,(gD _ _).alloc (ae _) _⟩
 case round=>
  obtain⟨k,hk,rfl,p,h,f⟩:=hrel;have zm:=p.lt;by_cases G:k<t
  .obtain⟨b,o,x,rfl,r,H,L⟩:=R1.uq G;have q2:wr.cell? (b,o+k)=some (.int .i64 x):=((aj f).1 _ _ r).trans L;have q:=p.ss Tryz.underlying224 Tryz.underlying3 (QC wr) x;have d:(Instr.lookup 224 (.map (some v.heap.size)) (.int .i64 x) true).run Tryz.prog wr=.ok (.tuple #[(zN (l.take k) x).getD (.int .i64 0),.bool (zN (l.take k) x).isSome]) wr:=q;have m:=MP H;by_cases n:x∈l.take k
   .have s:zN (l.take k) x=some (.int .i64 ((l.take k).idxOf x:Nat)):=if_pos n;rw[s]at d;simp only[Option.getD_some,Option.isSome_some]at d;have Q:Hid (gz l nm=.error 24):=by show _=_;unfold gz;rw[if_pos];intro R;have:(l.take (k+1)).Nodup:=R.sublist (List.take_sublist _ _);rw[m,List.nodup_append]at this;exact this.2.2 x n x (by simp) rfl
    have B:=J f;clear p h f q m n s H L;go_wp2_with fail
    go_ret2
    refine⟨B,?_⟩;rw[Q.out];rfl
   have s:zN (l.take k) x=none:=if_neg n;rw[s]at d;simp only[Option.getD_none,Option.isSome_none]at d;obtain⟨Y,C,S,T⟩:=p.put Tryz.underlying224 Tryz.underlying3 x (.int .i64 (k:Nat)) s;have av:(Instr.mapUpdate 224 (.map (some v.heap.size)) (.int .i64 x) (.int .i64 (k:Nat))).run Tryz.prog wr=.ok () Y:=C;have D:(l.take k).length=k:=by rw[ot,O.out];omega
   have hf:=Jx (l.take k) x n;rw[D,<-m]at hf;have HM:Hid (j9 Ns Y v.heap.size (zN (l.take (k+1)))):=by show j9 _ _ _ _;rw[hf];exact S
   have HN:Hid ((l.take (k+1)).Nodup):=by show List.Nodup _;rw[m,List.nodup_append];exact⟨h,by simp,λa ha c hc e=>by simp only[js]at hc;subst hc;subst e;exact n ha⟩
   have B:Hid (Below v v Y):=f.grown T f.size (λg e=>by cases e;exact ae _);clear p h f q m n s H L C S T D hf;go_wp2_with fail
   go_roundw
   case rel=>exact⟨k+1,by omega,by simp,HM,HN,B⟩
   case measure=>simp[intOf];omega
  obtain rfl:k=t:=by omega
  rw[oY (by rw[O.out];exact ae _)]at p h;by_cases I:F=k
  .subst I;have Q:Hid (gz l nm=.ok (z.map (Gf l nm))):=by show _=_;unfold gz;rw[if_neg (by simpa using h),if_neg (by rw[O.out,l3.out];simp),P.out];rfl
   have HM:=J p;have B:=J f;have ad:=f.size;clear p h f;go_wp2_with (at_make;refine wpList_make_own _ rfl _ _ 22 rfl v.heap.size 3 i0 (.int .i64 0) 1 Tryz.underlying22 hi aa ab .i64 .i64 _ u rfl rfl rfl (by rw[ac];omega) (by unfold maxLen;omega) (by omega) ?_;intro w0 E aE)
   have U:j9 Ns w0 v.heap.size (zN l):=HM.grown aE (by simp);have V:Below v v w0:=B.grown aE B.size (λg e=>by cases e);have ak:=J U;have al:=J V;have ao:=J E;clear U V E aE ad;go_loopw [13,47] (λw i w'=>∃k:Nat,k<=u/\i=.int .i64 k/\∃A c,w=.slice A k c/\w'.ownsRow v.heap.size 3 1 (.slice A k c) k (aC ((z.take k).map (Gf l nm)))/\j9 Ns w' v.heap.size (zN l)/\Below v v w') (λ_ i _=>u - (intOf i).toNat)
   case atStart=>exact⟨0,nz _,rfl,_,_,rfl,ao,ak,al⟩
   case round=>
    obtain⟨k,hk,rfl,A4,c4,rfl,M,p,f⟩:=hrel;by_cases G:k<u
    .obtain⟨b,o,x,rfl,r,H,L⟩:=R2.uq G;have q2:wr.cell? (b,o+k)=some (.int .i64 x):=((aj f).1 _ _ r).trans L;have K:x∈l:=by have:=kj H;rw[P.out]at this;exact(FY x l).1 this
     have ap:l.idxOf x<F:=by rw[<-O.out];exact List.idxOf_lt_length_iff.2 K
     obtain⟨b3,o3,y,rfl,W,hy,q3⟩:=R3.uq ap;have q4:wr.cell? (b3,o3+l.idxOf x)=some (.int .i64 y):=((aj f).1 _ _ W).trans q3;have q:=p.sq Tryz.underlying224 Tryz.underlying3 (QC wr) x;have d:(Instr.lookup 224 (.map (some v.heap.size)) (.int .i64 x) false).run Tryz.prog wr=.ok ((zN l x).getD (.int .i64 0)) wr:=q;have s:zN l x=some (.int .i64 (l.idxOf x:Nat)):=if_pos K;rw[s]at d;simp only[Option.getD_some]at d;have aw:=mz W f.size;have ay:=mz r f.size;have m:Hid (aC ((z.take (k+1)).map (Gf l nm))=aC ((z.take k).map (Gf l nm))++[.int .i64 y]):=by
      show _=_;rw[MP H.out,ra,G9];have:Gf l nm x=y:=by unfold Gf;rw[List.getD_eq_getElem?_getD,hy.out];rfl
      rw[lP,p9,this];rfl
     generalize l.idxOf x=j at*
     generalize aC ((z.take k).map (Gf l nm))=xs at*
     have Hm:=J p;have Z:=J f;have aD:=f.size;clear H L K hy q3 q s p f;go_wp2_with (at_builtin;refine jr iw rfl (.tmp 51) (.tmp 58) rfl wr _ rfl v.heap.size k c4 A4 xs #[y] rfl rfl rfl M (by simp[Value.oneCell']) (by omega) (by omega) ?_;intro A5 c5 Y aq X _)
     go_roundw
     case rel=>exact⟨k+1,by omega,by simp,A5,c5,rfl,by rw[m.out];exact aq,Hm.grown X (YN Hm M),Z.grown X Z.size (λg e=>(M.lt g e).1)⟩
     case measure=>simp[intOf];omega
    obtain rfl:k=u:=by omega
    rw[oY (by rw[l2.out];exact ae _)]at M;have Z:=J f;have Ho:=J M;clear p f M;go_wp2_with fail
    go_ret2
    refine⟨Z,?_⟩;rw[Q.out];have bF:(z.map (Gf l nm)).length=k:=by rw[lE];exact l2
    show ∃A' c',_/\_;rw[bF];exact⟨A4,c4,rfl,Ho⟩
  have Q:Hid (gz l nm=.error 22):=by show _=_;unfold gz;rw[if_neg (by simpa using h),if_pos (by rw[O.out,l3.out];exact I)]
  have e1:((F:Int)==(k:Int))=false:=by simp;omega
  have e2:((F:Int) !=(k:Int))=true:=by simp;omega
  have B:=J f;clear p h f I;go_wp2_with fail
  go_ret2
  refine⟨B,?_⟩;rw[Q.out];rfl
end
def kC:List (List B)->Nat
 |[]=>0
 |(w::_)::a=>if w=fB then kC a+1 else kC a
 |[]::a=>kC a
theorem xG (w:B)(r:List B)(L:List (List B)):kC ((w::r)::L)=if w=fB then kC L+1 else kC L:=rfl
theorem Jf (n:Nat)(a:List (List B))(l:List B):bD n (a++[l])=bD n a++bD (n+kC a) [l]:=by
 induction a generalizing n with
 |nil=>rfl
 |cons x a b=>
  cases x with
  |nil=>exact b n
  |cons w r=>
   rw[nw,jG,jG,xG];split
   .rw[b,mL,show n+1+kC a=n+(kC a+1) by omega]
   exact b n
theorem Do (a:List (List B))(w:B)(r:List B):kC (a++[w::r])=if w=fB then kC a+1 else kC a:=by
 induction a with
 |nil=>rfl
 |cons x a b=>
  cases x with
  |nil=>exact b
  |cons v q=>rw[nw,xG,xG,b];split<;>split<;>rfl
theorem VZ (a:List (List B)):kC a<=a.length:=by
 induction a with
 |nil=>exact ae _
 |cons x a b=>
  cases x with
  |nil=>exact Nat.le_succ_of_le b
  |cons w r=>rw[xG,aV];split<;>omega
def gF (a:Gl):B->Option Value:=λt=>(a.lookup t).map λn=> .int .i64 (n:Nat)
theorem Cx (n:Nat)(L:List (List B))(t:B)(m:Nat)(h:(bD n L).lookup t=some m):m<n+kC L:=by
 have c:∀(L:List (List B)) (n:Nat),∀x∈bD n L,x.2<n+kC L:=by
  intro L;induction L with
  |nil=>intro n x hx;simp[bD]at hx
  |cons l L b=>
   intro n x hx;cases l with
   |nil=>exact b n x hx
   |cons w r=>
    rw[jG]at hx;rw[xG];split at hx
    .rename_i d;rw[if_pos d];rw[jp]at hx;rcases hx with hx|hx
     .unfold BM at hx;split at hx
      .split at hx
       .simp only[js]at hx;subst hx;simp only;omega
       simp at hx
      simp at hx
     have:=b (n+1) x hx;omega
    rename_i d;rw[if_neg d];exact b n x hx
 have e:(t,m)∈bD n L:=by
  revert h
  generalize bD n L=G;intro h;induction G with
  |nil=>simp at h
  |cons a G b=>
   obtain⟨x,y⟩:=a;rw[List.lookup]at h;split at h
   .rename_i f;have:t=x:=by simpa using f
    subst this;injection h with h
    subst h;simp
   exact List.mem_cons_of_mem _ (b h)
 exact c L n _ e
theorem Xd {n k:Nat}(p:i7 w 96 A n 1 a)(d:RowsIn fE w a e)(q:Below w w f)(t:k<n):
  ∃b o r i c j,A=some ⟨b,o,none⟩/\Hid (e[k]?=some r)/\b<f/\f.cell? ⟨b,o+k,none⟩=some (.slice i c j)/\i7 f fE i c 3 (dP r)/\c=r.length/\c<=j:=by
 have m:=p.below q;have C:=d.below q;obtain⟨b,o,u,l,g,v⟩:=m.2 (by omega);have x:a.length=n:=by have:=p.1;omega
 have h:k<e.length:=by rw[<-d.1,x];exact t
 obtain⟨i,c,j,y,s,z⟩:=C.2 k _ (jO h);exact⟨b,o,e[k],i,c,j,l,jO h,g.lt,(g.cell _).trans (v k _ y),s,s.rd.Z.symm,z⟩
theorem RR:(Instr.makeMap 89 none).run Tryz.prog v=.ok (.map (some v.heap.size)) (v.alloc (.map #[] 0)):=by
 simp[Instr.makeMap,run_underlying Tryz.underlying89,Result.andThen,newObj,go_sem]
 try rfl
def pS (w:World)(L:List (List B))(k:Nat)(a:World):Prop:=j9 oJ a w.heap.size (gF (bD 0 (L.take k)))/\Below w w a
theorem Ly {H:Gl}(h:∀t,H.lookup t=G.lookup t):∀t,gF H t=gF G t:=λt=>by unfold gF;rw[h]
theorem pS.skip {a:World}{L:List (List B)}{k:Nat}(h:pS w L k f)(c:L[k]?=some l)(b:Below f f a)(d:∀t,(bD (0+kC (L.take k)) [l]).lookup t=none\/((bD 0 (L.take k)).lookup t).isSome):pS w L (k+1) a:=by
 refine⟨(h.1.below b).congr λt=> ?_,h.2.trans (b.mono h.2.size)⟩;refine Ly (λt=> ?_) t;rw[pm,c,Option.toList_some,Jf,List.lookup_append];rcases d t with h|h
 .rw[h,Option.or_none]
 cases e:(bD 0 (L.take k)).lookup t with
 |none=>rw[e]at h;cases h
 |some v=>rfl
theorem pS.put {w wr a:World}{L:List (List B)}{k:Nat}{v:B}{l:List B}(h:pS w L k wr)(c:L[k]?=some (fB::v::l))(d:hZ v=true)(f:(bD 0 (L.take k)).lookup v=none)
  (g:j9 oJ a w.heap.size (λt=>if t=v then some (.int .i64 (kC (L.take k):Nat))else gF (bD 0 (L.take k)) t)) (i:wr.grownBy a (some w.heap.size)):pS w L (k+1) a:=by
 refine⟨g.congr λt=> ?_,h.2.grown i h.2.size (λk e=>by cases e;exact ae _)⟩;unfold gF;rw[pm,c,Option.toList_some,Jf,List.lookup_append];have j:bD (0+kC (L.take k)) [fB::v::l]=[(v,kC (L.take k))]:=by rw[jG,if_pos rfl,BM];simp[d,bD]
 rw[j];by_cases b:t=v
 .subst b;rw[if_pos rfl,f];simp[List.lookup]
 have m:(t==v)=false:=by simpa using b
 rw[if_neg b,List.lookup,m];simp
theorem Qj (A:Option Addr)(n c:Nat)(a:List (List P3))(hs:List Value)(hr:i7 v 96 A n 1 hs)(Q:RowsIn fE v hs a)(hn:n<=1000000000)(Y:∀r∈a,r≠[])(hl:∀r∈a,r.length<=1000000000/\∀x∈r,x.2.2.length<=800000000):
  Calls Tryz.prog 17 #[A n c] v λe w'=>∃M,e=.returned (.map (some M))/\v.heap.size<=M/\j9 oJ w' M (gF (bD 0 (aT a)))/\Below v v w':=by
 have N:hs.length=n:=by have:=hr.1;omega
 have Z:=J (show(aT a).length=n by unfold aT;rw[lE,<-Q.1];exact N);have HW:=J hr;have ZW:=J Q;have HL:=J hl;have ao:=J Y;have ap:=RR v;clear hr Q hl Y N;go_enter Tryz.func17,Tryz.ntmps17
 go_wp2_with fail
 clear ap;go_loopw [4,12] (λov i wr=>∃k:Nat,k<=n/\i=.int .i64 k/\ov=.int .i64 (kC ((aT a).take k):Nat)/\pS v (aT a) k wr) (λ_ i _=>n - (intOf i).toNat)
 case atStart=>exact⟨0,nz _,rfl,rfl,j9.new oJ v,(gD _ _).alloc (ae _) _⟩
 case round=>
  obtain⟨k,hk,rfl,rfl,g⟩:=hrel;by_cases aq:k<n
  .obtain⟨b,o,r,Ar,T,cr,rfl,R,aD,q1,B,C,-⟩:=Xd HW ZW g.2 aq;have p:=kj R;have s:lR wr Ar T r:=⟨B,(HL r p).2,by rw[C];exact(HL r p).1⟩
   obtain⟨t,l,h⟩:∃t l,af r=t::l:=by
    have:=ao r p;cases r with
    |nil=>exact absurd rfl this
    |cons x q=>exact⟨_,_,rfl⟩
   have u:(aT a)[k]?=some (t::l):=by unfold aT;rw[po,R.out,Option.map_some,h]
   have y:T=l.length+1:=by rw[<-s.length];exact dR h
   obtain⟨b1,o1,rfl,aa,p1,aE⟩:=s.word (k:=0) (t:=t) (by rw[h];rfl) (d:=0) rfl;have D:=VZ ((aT a).take k);rw[ot,Z.out]at D;have F:Hid (kC ((aT a).take (k+1))=if t=fB then kC ((aT a).take k)+1 else kC ((aT a).take k)):=by show _=_;rw[pm,u,Option.toList_some,Do]
   have j:=J g;have EM:=J u;have aL:kC ((aT a).take k)<=1000000000:=by omega
   generalize av:kC ((aT a).take k)=cg at*
   have ar:=J av;by_cases U:t=fB
   .subst U;cases l with
    |nil=>
     simp only[ln,mU]at y;subst y;have S:Hid (∀f,Below wr.heap.size wr f->pS v (aT a) (k+1) f):=λf G=>j.skip EM G (λt=> .inl rfl)
     clear g u av B C s h R p D;go_wp2_with fail
     go_roundw
     case rel=>exact⟨k+1,by omega,by simp,by rw[F.out];simp,S _ (gD _ _)⟩
     case measure=>simp[intOf];omega
    |cons w l=>
     obtain⟨b2,o2,e',-,p2,aM⟩:=s.word (k:=1) (t:=w) (by rw[h];rfl) (d:=3) rfl;obtain⟨rfl,rfl⟩:b1=b2/\o1=o2:=by simpa using e'
     clear e';have aN:(T:Int)>1:=by rw[y];simp;omega
     have H:=j.out;cases hv:hZ w with
     |false=>
      have S:Hid (∀f,Below wr.heap.size wr f->pS v (aT a) (k+1) f):=λf G=>j.skip EM G (λt=> .inl (by
       rw[jG,if_pos rfl,BM];simp[hv,bD]))
      clear g u av B C s h R p D H y;go_wp2_with (go_at_call 42;refine(Ed _ w).mono ?_;rintro e f ⟨rfl,E⟩;rw[hv];have V:=J E;clear E)
      go_roundw
      case rel=>exact⟨k+1,by omega,by simp,by rw[F.out];simp,S _ V⟩
      case measure=>simp[intOf];omega
     |true=>
      have HV:=J hv
      have ab:∀f,Below wr.heap.size wr f->j9 oJ f v.heap.size (gF (bD 0 ((aT a).take k))):=λf G=>j.1.below G
      cases W:(bD 0 ((aT a).take k)).lookup w with
      |none=>
       have I:gF (bD 0 ((aT a).take k)) w=none:=by unfold gF;rw[W];rfl
       have HX:=J W;have K:=J I;clear g u B C s h R p D H y W I hv;go_wp2_with (go_at_call 42;refine(Ed _ w).mono ?_;rintro e f ⟨rfl,E⟩;rw[HV.out];have V:=J E;have aw:=((aj E).1 _ _ aa).trans p2;have X:=ab f E;have z:=X.ss Tryz.underlying89 Tryz.underlying9 (QC f) w;rw[K.out]at z;obtain⟨w2,O,ac,ad⟩:=X.put Tryz.underlying89 Tryz.underlying9 w (.int .i64 (cg:Nat)) K;have aQ:(Instr.mapUpdate 89 (.map (some v.heap.size)) (.string w) (.int .i64 (cg:Nat))).run Tryz.prog f=.ok () w2:=O;have ak:(Instr.lookup 89 (.map (some v.heap.size)) (.string w) true).run Tryz.prog f=.ok (.tuple #[.int .i64 0,.bool false]) f:=z;have uB:=J ac;have ay:=J ad;clear E X z O ac ad)
       go_roundw
       case rel=>refine⟨k+1,by omega,by simp,by rw[F.out];simp,?_⟩;refine pS.put (wr:=f) (L:=aT a) (k:=k) ⟨j.1.below V,j.2.trans (V.mono j.2.size)⟩ EM HV HX ?_ ay;rw[ar.out];exact uB
       case measure=>simp[intOf];omega
      |some m=>
       have I:gF (bD 0 ((aT a).take k)) w=some (.int .i64 (m:Nat)):=by unfold gF;rw[W];rfl
       have K:=J I;have S:Hid (∀f,Below wr.heap.size wr f->pS v (aT a) (k+1) f):=λf G=>j.skip EM G (λx=>by
        rw[jG,if_pos rfl,BM];by_cases al:x=w
        .subst al;exact .inr (by rw[W];rfl)
        refine .inl ?_;have G:(x==w)=false:=by simpa using al
        simp[HV.out,bD,List.lookup,G])
       clear g u B C s h R p D H y W I hv;go_wp2_with (go_at_call 42;refine(Ed _ w).mono ?_;rintro e f ⟨rfl,E⟩;rw[HV.out];have V:=J E;have aw:=((aj E).1 _ _ aa).trans p2;have X:=ab f E;have z:=X.ss Tryz.underlying89 Tryz.underlying9 (QC f) w;rw[K.out]at z;have ak:(Instr.lookup 89 (.map (some v.heap.size)) (.string w) true).run Tryz.prog f=.ok (.tuple #[.int .i64 (m:Nat),.bool true]) f:=z;clear E X z)
       go_roundw
       case rel=>exact⟨k+1,by omega,by simp,by rw[F.out];simp,S _ V⟩
       case measure=>simp[intOf];omega
   have e1:(t==[103,108,121,112,104])=false:=by simpa using U
   have aR:0<T:=by omega
   have S:Hid (∀f,Below wr.heap.size wr f->pS v (aT a) (k+1) f):=λf G=>j.skip EM G (λx=> .inl (by rw[jG,if_neg U];rfl))
   have HT:=J U;clear g u av B C s h R p D U y;go_wp2_with fail
   go_roundw
   case rel=>exact⟨k+1,by omega,by simp,by rw[F.out,if_neg HT.out],S _ (gD _ _)⟩
   case measure=>simp[intOf];omega
  obtain rfl:k=n:=by omega
  have P:j9 oJ wr v.heap.size (gF (bD 0 (aT a))):=by
   have:=g.1
   rwa [oY (by rw[Z.out];exact ae _)]at this
  have HF:=J P;have ZR:=J g.2;clear P g;go_wp2_with fail
  go_ret
  exact⟨_,rfl,ae _,HF,ZR⟩
section
attribute [-go_sem] Builtin.append_
abbrev Jp:TypeId:=96
abbrev vR:TypeId:=186
def qk (b:World)(a:List (List P3))(e:List Value)(k:Nat)(g:World):Prop:=
 ∃d:List Value,d.length=3/\Bk g b.heap.size jD e.toArray/\Bk g (b.heap.size+1) vR d.toArray/\RowsIn fE g e a/\Below b b g/\
  ∀(j:Nat) (r:List P3),j<k->a[j]?=some r->∃S A c f,jK r=some S/\d[j]?=some (.slice A S.length c)/\i7 g Jp A S.length 1 f/\RowsIn fE g f S
theorem DN {c:List Value}(h:RowsIn fE w c e){f:Array Value}(d:Bk w g t f)(b:fE≠t)(i:Nat)(u:Value):RowsIn fE (w.setCell (g,i) u) c e:=h.kept λ_ _ _ a=>a.vE d b i u
theorem qk.start {b c a:Value}(g:RowsIn fE f [d,b,c,a] e):qk f e [d,b,c,a] 0 ((f.alloc (.cells #[d,b,c,a] jD)).alloc (.cells #[(),(),()] vR)):=by have i:Bk (f.alloc (.cells #[d,b,c,a] jD)) f.heap.size jD #[d,b,c,a]:=Bk.new _ _ _;refine⟨[.slice none 0 0,.slice none 0 0,.slice none 0 0],rfl,i.alloc _,?_,(g.alloc _).alloc _,((gD _ _).alloc (ae _) _).alloc (by simp) _,λj r h=>by omega⟩;have:=Bk.new (f.alloc (.cells #[d,b,c,a] jD)) vR #[(),(),()];simpa using this
theorem qk.next {l Q P:World}{b:List (List P3)}{p:List Value}{k:Nat}{r:List P3}{S:List (List P3)}{v:Value}(h:qk l b p k Q)(N:k<3)(u:b[k]?=some r)(w:jK r=some S)(g:yM fE Jp Q P S v):qk l b p (k+1) (P.setCell (l.heap.size+1,k) v):=by
 obtain⟨x,y,q,s,m,t,z⟩:=h;obtain⟨A,c,B,rfl,C,D,f⟩:=g;have n:=q.keep (f.block _ q.lt);have a:=s.keep (f.block _ s.lt);refine⟨x.set k (A S.length c),by simp[y],Bk.I n (by simp) _,?_,DN (m.below f) a (by decide) _ _,(t.trans (f.mono t.size)).setCell (by simp) _,λj E F d=> ?_⟩
 .have:=a.set k (A S.length c);simpa using this
 by_cases i:j=k
 .subst i;rw[u]at d;cases d;exact⟨S,A,c,B,w,by rw[List.getElem?_set_self (by omega)],C.vE a (by decide) _ _,DN D a (by decide) _ _⟩
 obtain⟨G,H,I,o,O,K,L,M⟩:=z j E (by omega) d;exact⟨G,H,I,o,O,by rw[List.getElem?_set_ne (λe=>i e.symm)];exact K,(L.below f).vE a (by decide) _ _,DN (M.below f) a (by decide) _ _⟩
theorem Y5 (d:Gl)(s:PS){c:List gH}(b:s.f.ge=c++[u])(h:rU l=none):gK d s l=.error 22:=by unfold gK;rw[b,List.getLast?_append];simp only[List.getLast?_singleton,Option.some_or];rw[h]
theorem Y6 (k:Gl)(s:PS){j:List gH}(e:s.f.ge=j++[u]){a b c g:List B}(h:rU l=some [a,b,c,g])(i:fK a=none\/fK b=none\/fK c=none):gK k s l=.error 22:=by
 unfold gK;rw[e,List.getLast?_append];simp only[List.getLast?_singleton,Option.some_or];rw[h];simp only;rcases i with h|h|h
 .rw[h]
 .rw[h];cases fK a<;>rfl
 rw[h];cases fK a<;>cases fK b<;>rfl
theorem Me (s:PS)(h:gH->gH){c:List gH}(b:s.f.ge=c++[u]):nY s h={s with f:= {s.f with ge:=c++[h u]}} :=by unfold nY;rw[b,List.dropLast_concat,List.getLast?_append];rfl
end
theorem Yd:∀b,Fz w m b->Dt w b:=λb ⟨a,t,c,d,_⟩=>⟨a,t,c,d⟩
theorem Sw (h:Live w b m)(e:g<15):∀f,(m g).v.ownBlock=some f->Dt w f:=λf c=>by
 obtain⟨a,d⟩:=dY (h.own g e) c;exact⟨a,_,d,yN g⟩
theorem Live.fin {R:Rel α}(k:R.Ok){p:Nat}(h:Live w p m){j:Nat}(a:j<15)(f:kS j=b){o:List α}(g:(m j).n=o.length)(i:Fl R b w (Dt w) (m j).xs o):∃A c,(m j).v=.slice A o.length c/\Sl R b w (Dt w) A o:=by obtain⟨A,c,l⟩:=mP (h.own j a);have d:=h.own j a;have e:=Sw h a;rw[l]at d e;refine⟨A,c,by rw[l,g],?_⟩;subst f;exact Sl.pk d i e (yr j)
theorem Live.sA {R:Rel α}(a:R.Ok){k:Nat}(h:Live w k m){j:Nat}(d:j<15)(e:kS j=b){i:List α}(f:ld R b w (Fz w m) (m j) i):∃A c,(m j).v=.slice A i.length c/\Sl R b w (Dt w) A i:=h.fin a d e f.1 (f.2.mono a Yd)
theorem ie.done {p k:Nat}(h:ie w b p k g G s m K):kt w (Dt w) [.int .i64 s.f.gt,(m 0).v,(m 1).v,(m 2).v,(m 3).v,(m 4).v,(m 5).v,(m 6).v,(m 7).v] s.f:=by
 have a:=h.live;obtain⟨cm,n,o,f0⟩:=a.fin iA.ok (j:=0) (by decide) rfl h.D.p.1 ((pN.told a h.D.p).mono iA.ok Yd);obtain⟨q,r,t,u⟩:=a.sA kO.ok (j:=1) (by decide) rfl h.D.Y;have rv:Fl jn 3 w (Dt w) (m 2).xs s.f.ge:=by
  rcases h.D.u.2 with⟨d,gl⟩|⟨i,l,Z,d,gl,x,y,z⟩
  .rw[d,gl];exact Fl.nil
  obtain⟨A,c,e,f⟩:=a.sA lj.ok (j:=14) (by decide) rfl z;rw[d,gl,e];exact(y.mono jn.ok Yd).append (Fl.one (R:=jn) ⟨A,c,rfl,x,f⟩ rfl)
 obtain⟨B,c2,C,D⟩:=a.fin jn.ok (j:=2) (by decide) rfl h.D.u.1 rv;obtain⟨E,c3,F,Bd⟩:=a.sA kn.ok (j:=3) (by decide) rfl h.D.G;obtain⟨H,I,aa,L⟩:=a.sA kI.ok (j:=4) (by decide) rfl h.D.E;obtain⟨M,N,O,P⟩:=a.sA ko.ok (j:=5) (by decide) rfl h.D.H;obtain⟨Q,S,T,U⟩:=a.sA kx.ok (j:=6) (by decide) rfl h.D.F;obtain⟨V,W,X,Y⟩:=a.sA gS.ok (j:=7) (by decide) rfl h.D.gP;rw[o,t,C,F,aa,O,T,X];exact⟨cm,n,q,r,B,c2,E,c3,H,I,M,N,Q,S,V,W,rfl,h.D.gt,f0,u,D,Bd,L,P,U,Y⟩
def MJ:Rows:=λ_=>RV.nil
theorem Live.start (Bd:Nat):Live v Bd MJ:=⟨λj _=>World.ownsRow_nil v Bd _ _,λi j _ _ _ g h=>by cases h⟩
theorem FD.start (S:Bs):FD v S MJ f0:={gt:=⟨by decide,by decide⟩,p:=⟨rfl,.inl ⟨rfl,rfl⟩⟩,Y:=ld.nil _ _ _ _,u:=⟨rfl,.inl ⟨rfl,rfl⟩⟩,G:=ld.nil _ _ _ _,E:=ld.nil _ _ _ _,H:=ld.nil _ _ _ _,F:=ld.nil _ _ _ _,gP:=ld.nil _ _ _ _}
theorem ie.start {Bd p:Nat}(a:Bk w p kJ (eQ nx MJ b g))(c:j9 oJ w b (gF G))(d:j9 oJ w g (λ_=>none))(e:∀t n,G.lookup t=some n->n<=1000000000)(f:Bd<=p/\Bd<=b/\Bd<=g/\b≠g):ie w Bd p b g G nx MJ 0:={par:=a,live:=Live.start _ _,D:=FD.start _ _,r:=c,m:=e,ia:=⟨_,d,λt=> .inl ⟨rfl,rfl⟩⟩,i:=λj _=>ae _,low:=f}
def pe (l:List (List Wd)):Nat:=(l.map List.length).sum
theorem Mn (a:List B)(n:Nat):pe (bY n a)<=(a.map List.length).sum:=by
 induction a generalizing n with
 |nil=>exact ae _
 |cons p a b=>
  have c:=b (n+1);have d:=WY p;unfold pe at c ⊢;rw[bY];split
  .simp only[pG,lP,ud];omega
  simp only[ra,lP,p9,List.sum_append,ud,List.sum_nil,Ih];omega
theorem M0 (s:B):((iU s).map List.length).sum<=s.length:=by
 induction s with
 |nil=>exact ae _
 |cons c r a=>
  rw[iU];split
  .simp only[lP,ud,ln,aV];omega
  cases b:iU r with
  |nil=>exact absurd b (Ub r)
  |cons p d=>rw[b]at a;simp only[lP,ud,aV]at a ⊢;omega
theorem EB (s:B):pe (iH s)<=s.length:=nt (Mn _ _) (M0 s)
theorem Mo (L:List (List Wd))(k:Nat)(r:List Wd)(h:L[k]?=some r):pe (L.take k)+r.length<=pe L/\pe (L.take (k+1))=pe (L.take k)+r.length:=by
 have e:L.take (k+1)=L.take k++[r]:=by rw[pm,h];rfl
 have a:pe (L.take (k+1))=pe (L.take k)+r.length:=by unfold pe;rw[e];simp
 refine⟨?_,a⟩;have:pe L=pe (L.take (k+1))+pe (L.drop (k+1)):=by
  unfold pe
  conv=>lhs;rw[<-rA (k+1) L]
  rw[ra,List.sum_append]
 omega
theorem Tq (s:B):∀r∈iH s,r≠[]:=by
 unfold iH;generalize 1=n;induction iU s generalizing n with
 |nil=>intro r hr;simp[bY]at hr
 |cons p b a=>
  intro r hr;rw[bY,jp]at hr;rcases hr with hr|hr
  .split at hr
   .simp at hr
   rename_i h;simp only[js]at hr;subst hr;simpa [num]using h
  exact a _ r hr
theorem CF (s:B):(iH s).length<=s.length+1:=by have a:=EF 1 (iU s);have b:=Cp s;have c:s.count 10<=s.length:=List.count_le_length;unfold iH;omega
theorem DV {c:Gl}{L:List (Int×List B)}{k:Nat}(h:stmts c nx (L.take k)=.ok s)(a:L[k]?=some (x,l)):stmts c nx (L.take (k+1))=(match stmt c s l with| .ok b=> .ok b| .error e=> .error (x,e)):=by rw[pm,a,Option.toList_some,Gu,h];simp only[stmts];cases stmt c s l<;>rfl
theorem Ev {c:Gl}{L:List (Int×List B)}{k:Nat}(h:stmts c nx (L.take k)=.ok s)(b:L[k]?=some (x,l))(he:stmt c s l=.error y):stmts c nx L=.error (x,y):=by
 have a:=DV h b;rw[he]at a
 conv=>lhs;rw[<-rA (k+1) L]
 rw[Gu,a]
theorem Oj (e:Gl)(a:List (B×List Int))(c:Int)(he:c≠0)(l:List (List B)):(aS e a c l).1=c:=by
 suffices h:∀b,(l.foldl (λq x=>((bC e a q.1 [] x).1,q.2++[(bC e a q.1 [] x).2])) ((c,b):Int×List (List Int))).1=c from h []
 induction l with
 |nil=>intro b;rfl
 |cons x r d=>intro b;rw[o0];simp only;rw[MI e a c he];exact d _
theorem JU (n:Gl)(a:List (B×List Int))(l:List (List B)):(∃e,mX n a l=.error e/\e≠0/\(aS n a 0 l).1=e)\/(∃o,mX n a l=.ok o/\aS n a 0 l=(0,o)):=by
 suffices h:∀b:List (List Int),(∃e,mX n a l=.error e/\e≠0/\(l.foldl (λq x=>((bC n a q.1 [] x).1,q.2++[(bC n a q.1 [] x).2])) ((0,b):Int×List (List Int))).1=e)\/(∃o,mX n a l=.ok o/\l.foldl (λq x=>((bC n a q.1 [] x).1,q.2++[(bC n a q.1 [] x).2])) ((0,b):Int×List (List Int))=(0,b++o))from h []
 induction l with
 |nil=>intro b;exact .inr ⟨[],rfl,by simp⟩
 |cons x r c=>
  intro b;rw[o0,mX];simp only;rcases Gq n a [] x (by simp)with⟨e,f,d,k⟩|⟨g,f,d,-⟩
  .rw[f,k];refine .inl ⟨e,rfl,d,?_⟩
   suffices h:∀b,(r.foldl (λq x=>((bC n a q.1 [] x).1,q.2++[(bC n a q.1 [] x).2])) ((e,b):Int×List (List Int))).1=e from h _
   intro b;clear c;induction r generalizing b with
   |nil=>rfl
   |cons y r c=>rw[o0];simp only;rw[MI n a e d];exact c _
  rw[f,d];simp only;rcases c (b++[g])with⟨e,i,j,m⟩|⟨o,i,j⟩
  .rw[i];exact .inl ⟨e,rfl,j,m⟩
  rw[i];exact .inr ⟨g::o,rfl,by rw[j];simp⟩
def mr (c:Gl)(b e:Int)(a:List B):Int:=if b=1\/b=2\/b=3\/b=5 then wC c e a else if b=4 then a.foldl oI e else if b=6 then gu e a else e
theorem Mh (b:Gl)(e:Int)(he:e≠0)(l:List B):wC b e l=e:=by
 induction l with
 |nil=>rfl
 |cons x r a=>
  show(x::r).foldl (kV b) e=e;rw[o0];have:kV b e x=e:=by unfold kV;rw[if_neg (λh=>he h.1)]
  rw[this];exact a
theorem Nr (e:Int)(he:e≠0)(t:B):aP e t=e:=by unfold aP;rw[if_neg (λh=>he h.1)]
theorem Gt (e:Int)(he:e≠0)(l:List B):gu e l=e:=by
 induction l with
 |nil=>rfl
 |cons x r a=>show(x::r).foldl aP e=e;rw[o0,Nr e he];exact a
theorem DE (e:Int)(he:e≠0)(l:List B):l.foldl oI e=e:=by
 induction l with
 |nil=>rfl
 |cons x r a=>
  rw[o0];have:oI e x=e:=by unfold oI;rw[Nr e he,Nr e he]
  rw[this];exact a
theorem RI (c:Gl)(b e:Int)(he:e≠0)(a:List B):mr c b e a=e:=by
 unfold mr;split
 .exact Mh c e he a
 split
 .exact DE e he a
 split
 .exact Gt e he a
 rfl
def dL (e:Gl)(d:Int)(b i a:List (List Int))(c:List B):k':=⟨b.map setOf,i.map setOf,a.map setOf,if d=1\/d=2\/d=3\/d=5 then c.map (gX e)else [],if d=4 then c.map mZ else [],if d=6 then aI (c.headD [])else 0⟩
def Cm (s:PS)(b:Int)(i:List (List Int))(r:k'):mA:=
 if b=1\/b=5 then(match gz (i.headD []) r.out with
  | .error e=> .error e
  | .ok o=> .ok (nY s λa=> {a with gC:=a.gC++[{r with out:=o}]}))
 else .ok (nY s λa=> {a with gC:=a.gC++[r]})
theorem Ft (S:Gl)(s:PS){T:List gH}(K:s.f.ge=T++[u]){D E F d:List B}(h:rU l=some [D,E,F,d]){p g i:List (List B)}(L:fK D=some p)(M:fK E=some g)(N:fK F=some i)(r:¬((u.gd=1\/u.gd=5)/\g.length≠1))(k:fF u.gd d=true):
  let m:=aS S s.ia 0 p
  let c:=aS S s.ia m.1 g
  let b:=aS S s.ia c.1 i
  let j:=mr S u.gd b.1 d
  gK S s l=if j≠0 then .error j else Cm s u.gd c.2 (dL S u.gd m.2 c.2 b.2 d):=by
 intro m c b j;unfold gK;rw[K,List.getLast?_append];simp only[List.getLast?_singleton,Option.some_or];rw[h];simp only;rw[L,M,N];simp only;rw[if_neg r,if_neg (by rw[k];simp)];rcases JU S s.ia p with⟨e,t,q,a⟩|⟨O,t,a⟩
 .have v:c.1=e:=by show(aS S s.ia (aS S s.ia 0 p).1 g).1=e;rw[a,Oj _ _ _ q]
  have n:b.1=e:=by show(aS S s.ia c.1 i).1=e;rw[v,Oj _ _ _ q]
  have o:j=e:=by show mr S u.gd b.1 d=e;rw[n,RI _ _ _ q]
  rw[t,o,if_pos q]
 have G:m=(0,O):=a;have H:c=aS S s.ia 0 g:=by show aS S s.ia m.1 g=_;rw[G]
 rw[t];simp only;rcases JU S s.ia g with⟨e,w,x,y⟩|⟨P,w,y⟩
 .have v:c.1=e:=by rw[H,y]
  have n:b.1=e:=by show(aS S s.ia c.1 i).1=e;rw[v,Oj _ _ _ x]
  have o:j=e:=by show mr S u.gd b.1 d=e;rw[n,RI _ _ _ x]
  rw[w,o,if_pos x]
 have I:c=(0,P):=by rw[H,y]
 have c2:b=aS S s.ia 0 i:=by show aS S s.ia c.1 i=_;rw[I]
 rw[w];simp only;rcases JU S s.ia i with⟨e,z,R,A⟩|⟨Q,z,A⟩
 .have n:b.1=e:=by rw[c2,A]
  have o:j=e:=by show mr S u.gd b.1 d=e;rw[n,RI _ _ _ R]
  rw[z,o,if_pos R]
 have c3:b=(0,Q):=by rw[c2,A]
 rw[z];have C:j=mr S u.gd 0 d:=by show mr S u.gd b.1 d=_;rw[c3]
 rw[C,G,I,c3];rfl
theorem nine {w':World}{c e f g i l j k:Value}(h:Bk w b t #[c,d,e,f,g,i,l,j,k])(a:Below w w w'):
  w'.cell? (b,0)=some c/\w'.cell? (b,1)=some d/\w'.cell? (b,2)=some e/\w'.cell? (b,3)=some f/\w'.cell? (b,4)=some g/\w'.cell? (b,5)=some i/\w'.cell? (b,6)=some l/\w'.cell? (b,7)=some j/\w'.cell? (b,8)=some k:=
 ⟨h.at a 0 rfl,h.at a 1 rfl,h.at a 2 rfl,h.at a 3 rfl,h.at a 4 rfl,h.at a 5 rfl,h.at a 6 rfl,h.at a 7 rfl,h.at a 8 rfl⟩
structure tm (n m:Nat)(g:hU):Prop where
 gn:hZ g.gn=true
 oo:N9 g.gL
 h:g.gk.length<=200/\∀p∈g.gk,N9 p.x/\N9 p.y
 gO:g.gO.length<=40/\jM 0 g.gO g.gk.length
 gi:g.gi.length<=8/\∀p∈g.gi,In n p.z/\N9 p.x/\N9 p.y
 M:g.gh.length<=16/\∀a∈g.gh,1<=a.gd/\a.gd<=4/\N9 a.ia/\N9 a.x/\N9 a.y
 o:g.gx.length<=400/\∀d∈g.gx,In m d.region/\(-1<=d.ii/\d.ii<g.gk.length)/\N9 d.x/\N9 d.y
 gR:g.gR.length<=200/\nI g.gR
structure tT (g:hU):Prop where
 gn:ip g.gn.length
 h:ip g.gk.length
 gO:ip g.gO.length
 gi:ip g.gi.length
 M:ip g.gh.length
 o:ip g.gx.length
 gR:ip g.gR.length
theorem Fx (f:iu)(A1 A2 A3 A4 A5 C D E:Option Addr)(c1 c2 c3 c4 c5 F G H:Nat)(k:Nat)(hF:oS ⟨A1,c1,A2,c2,A3,c3,A4,c4,A5,c5,C,F,D,G,E,H⟩ f v)(g:hU)(hg:f.ga[k]?=some g)(hk:k<f.ga.length)(aa:ip f.ga.length)(aw:ip f.d'.length)(A:tT g):Calls Tryz.prog 77 #[.agg #[f.gt,A1 f.ga.length c1,A2 f.f6.length c2,A3 f.ge.length c3,A4 f.a'.length c4,A5 f.gM.length c5,C f.d'.length F,D f.fY.length G,E f.gP.length H],k] v (iz v (tm f.ga.length f.d'.length g/\∀j x,j<k->f.ga[j]?=some x->x.gn≠g.gn)):=by
 obtain⟨P,HP⟩:∃P:Prop,Hid (P=(tm f.ga.length f.d'.length g/\∀j x,j<k->f.ga[j]?=some x->x.gn≠g.gn)):=⟨_,rfl⟩
 rw[<-HP.out];unfold ip at aa;have HG:=J hg;obtain⟨r,ay,I,bV⟩:=aO v 32 #[f.gt,A1 f.ga.length c1,A2 f.f6.length c2,A3 f.ge.length c3,A4 f.a'.length c4,A5 f.gM.length c5,C f.d'.length F,D f.fY.length G,E f.gP.length H];have bH:Hid (Below v v r):=J I;have kK:=J bV;have oq:=J (hF.below I);obtain⟨b,o,x,R,S,T,U,B5,d5,B6,d6,B7,d7,V,W,ab,hb,hx,q0,q1,q2,q3,q4,q5,q6,q7,q8,r1,s3,s4,s5,s6,s7,s8⟩:=oq.ga.z (k:=k) hk;simp only at ab;subst ab;obtain rfl:x=g:=by have:=hx.out;rw[HG.out]at this;exact(Option.some.inj this).symm
 obtain⟨a,qE,c,ak⟩:=aO r 52 #[.string ⟨x.gn.toArray⟩,.int .i64 x.gL,.bool x.i6,R x.gk.length S,T x.gO.length U,B5 x.gi.length d5,B6 x.gh.length d6,B7 x.gx.length d7,V x.gR.length W];have X:Hid (Below v v a):=J (bH.trans (c.mono bH.size));have n:=J ak;have B:Hid (Bk a v.heap.size 32 #[f.gt,.slice (b,o) f.ga.length c1,A2 f.f6.length c2,A3 f.ge.length c3,A4 f.a'.length c4,A5 f.gM.length c5,C f.d'.length F,D f.fY.length G,E f.gP.length H]):=J (Bk.l bV c);have s:=X.size;have k1:=bV.cell 1;have m0:=ak.cell 0;replace s3:=s3.lw lr.ok c;replace s4:=s4.lw gS.ok c;replace s5:=s5.lw lS.ok c;replace s6:=s6.lw mc.ok c;replace s7:=s7.lw md.ok c;replace s8:=s8.lw ky.ok c;have H3:=J s3;have H4:=J s4;have H5:=J s5;have H6:=J s6;have H7:=J s7;have H8:=J s8;have aD:=J (oq.ga.lw iA.ok c);clear hb r1 s3 s4 s5 s6 s7 s8 hF hg hx;have a8:decide ((k:Int)<0)=false:=decide_eq_false (by omega);have a9:decide ((f.ga.length:Int)<=(k:Int))=false:=decide_eq_false (by omega);go_enter Tryz.func77,Tryz.ntmps77
 go_wp2_with fail
 refine(Uo _ x.gn A.gn).mono ?_;rintro e w4 ⟨bn,rfl,K,u⟩;have aE:Hid (Below a a w4):=J u;have E4:Hid (Below v v w4):=J (X.trans (u.mono s))
 try clear ay
 try clear qE
 clear k1 m0 q0 q1 q2 q3 q4 q5 q6 q7 q8 I bV c ak;cases bn
 .clear K u;go_wp2_with fail
  go_ret
  exact iz.bad _ (by decide) E4
 have HN:=J (K rfl);clear K u;go_wp2_with fail
 go_loopw [7] (λi wr=>∃j:Nat,j<=k/\i=.int .i64 j/\Hid (∀q y,q<j->f.ga[q]?=some y->y.gn≠x.gn)/\Below a a wr) (λi _=>k - (intOf i).toNat)
 case atStart=>exact⟨0,by omega,rfl,J (λq y h=>by omega),aE⟩
 case round=>
  obtain⟨w5,rfl⟩:∃x,x=wr:=⟨_,rfl⟩
  obtain⟨j,hj,rfl,ac,d⟩:=hrel;have fQ:Hid (Below a a w5):=J d;have E5:Hid (Below v v w5):=J (X.trans (d.mono s));have x1:=B.at d 1 rfl;have y0:=n.at d 0 rfl;by_cases ba:j<k
  .obtain⟨b2,o2,z,Z3,t3,Z4,t4,Z5,t5,Z6,t6,Z7,t7,Z8,t8,e2,aL,hz,v0,-⟩:=(aD.lw iA.ok d).z (k:=j) (by omega);obtain⟨rfl,rfl⟩:b=b2/\o=o2:=by simpa using e2
   clear aL e2 d;by_cases t:z.gn=x.gn
   .have aM:(z.gn==x.gn)=true:=by rw[t];simp
    clear t;go_wp2_with fail
    go_quiet (fail)
    go_wp2_with fail
    go_ret
    exact iz.bad _ (by decide) (below_drewN E5 _)
   have aM:(z.gn==x.gn)=false:=by simpa using t
   have ad:Hid (∀q y,q<j+1->f.ga[q]?=some y->y.gn≠x.gn):=J λq y hq hy=>by
    by_cases aN:q=j
    .subst aN;rw[hz.out]at hy;exact Option.some.inj hy ▸ t
    exact ac q y (by omega) hy
   clear t hz;go_wp2_with fail
   go_quiet (fail)
   go_wp2_with fail
   go_roundw
   case rel=>exact⟨j+1,by omega,by simp,ad,below_drewN fQ _⟩
   case measure=>simp[intOf];omega
  obtain rfl:j=k:=by omega
  have y1:=n.at d 1 rfl;have y3:=n.at d 3 rfl;have y4:=n.at d 4 rfl;clear d y0 x1;by_cases L:x.gL<0
  .go_wp2_with fail
   go_ret
   exact iz.bad _ (by decide) E5
  by_cases h2:16384<x.gL
  .go_wp2_with fail
   go_ret
   exact iz.bad _ (by decide) E5
  by_cases h3:200<x.gk.length
  .have nJ:decide ((200:Int)<x.gk.length)=true:=decide_eq_true (by omega);go_wp2_with fail
   go_ret
   exact iz.bad _ (by decide) E5
  have nJ:decide ((200:Int)<x.gk.length)=false:=decide_eq_false (by omega);by_cases h4:40<x.gO.length
  .have zi:decide ((40:Int)<x.gO.length)=true:=decide_eq_true (by omega);go_wp2_with fail
   go_ret
   exact iz.bad _ (by decide) E5
  have zi:decide ((40:Int)<x.gO.length)=false:=decide_eq_false (by omega);go_wp2_with fail
  go_loopw [8] (λi wr=>∃q:Nat,q<=x.gk.length/\i=.int .i64 q/\Hid (Up x.gk q (λp=>N9 p.x/\N9 p.y))/\Below a a wr) (λi _=>x.gk.length - (intOf i).toNat)
  case atStart=>exact⟨0,by omega,rfl,J (Up.zero _ _),fQ⟩
  case round=>
   obtain⟨w6,rfl⟩:∃x,x=wr:=⟨_,rfl⟩
   obtain⟨q,hq,rfl,M,m⟩:=hrel;have iM:Hid (Below a a w6):=J m;have E6:Hid (Below v v w6):=J (X.trans (m.mono s));clear y1 y3 y4;have y3:=n.at m 3 rfl;have y4:=n.at m 4 rfl;by_cases aW:q<x.gk.length
   .obtain⟨b3,o3,p,rfl,a0,hp,v0,v1,-,-,-⟩:=(H3.lw lr.ok m).pt aW;clear a0 m;by_cases m1:gZ p.x=false
    .go_wp2_with (first|(go_at_call 84;refine(dQ _ _).mono ?_;rintro e l ⟨rfl,rfl⟩))
     go_ret
     exact iz.bad _ (by decide) E6
    have BI:gZ p.x=true:=by simpa using m1
    by_cases m2:gZ p.y=false
    .go_wp2_with (first|(go_at_call 84;refine(dQ _ _).mono ?_;rintro e l ⟨rfl,rfl⟩))
     go_ret
     exact iz.bad _ (by decide) E6
    have Ls:gZ p.y=true:=by simpa using m2
    have dN:=J (M.snoc hp ⟨pK BI,pK Ls⟩);go_wp2_with (first|(go_at_call 84;refine(dQ _ _).mono ?_;rintro e l ⟨rfl,rfl⟩))
    go_roundw
    case rel=>exact⟨q+1,by omega,by simp,dN,iM⟩
    case measure=>simp[intOf];omega
   obtain rfl:q=x.gk.length:=by omega
   have ZZ:=J (λp (hp:p∈x.gk)=>M.all p hp);have HE:=J (J2 w6 R T S U x.gk x.gO (H4.lw gS.ok m) A.h A.gO);clear m M;go_wp2_with fail
   refine HE.mono ?_;rintro e w7 ⟨be,rfl,N,O⟩;have oV:Hid (Below a a w7):=J (iM.trans (O.mono iM.size));have E7:Hid (Below v v w7):=J (X.trans (oV.mono s));cases be
   .clear N O HE;go_wp2_with fail
    go_ret
    exact iz.bad _ (by decide) E7
   have a1:=J (N rfl);clear N O HE y3 y4;have kZ:Hid (Below a a w7.drew):=J oV.drew;have S7:=And.intro (nine B kZ) (nine n kZ);go_wp2_with fail
   go_region_held3 (λl=>(l.cell? (v,0)=some (.int .i64 f.gt)/\l.cell? (v,1)=some (.slice (b,o) f.ga.length c1)/\l.cell? (v,2)=some (A2 f.f6.length c2)/\l.cell? (v,3)=some (A3 f.ge.length c3)/\l.cell? (v,4)=some (A4 f.a'.length c4)/\l.cell? (v,5)=some (A5 f.gM.length c5)/\l.cell? (v,6)=some (C f.d'.length F)/\l.cell? (v,7)=some (D f.fY.length G)/\l.cell? (v,8)=some (E f.gP.length H))/\(l.cell? (r,0)=some (.string ⟨x.gn.toArray⟩)/\l.cell? (r,1)=some (.int .i64 x.gL)/\l.cell? (r,2)=some (.bool x.i6)/\l.cell? (r,3)=some (R x.gk.length S)/\l.cell? (r,4)=some (T x.gO.length U)/\l.cell? (r,5)=some (B5 x.gi.length d5)/\l.cell? (r,6)=some (B6 x.gh.length d6)/\l.cell? (r,7)=some (B7 x.gx.length d7)/\l.cell? (r,8)=some (V x.gR.length W)))
    (first
     |with_reducible exact S7
     |with_reducible exact S8
     |with_reducible exact S9
     |with_reducible exact a2
     |with_reducible exact a3
     |exact⟨nine B (Q.alloc w _),nine n (Q.alloc w _)⟩
     |with_reducible exact a4)
    (first
     |(go_at_call 122;refine(FE w7.drew f (b,o) A2 A3 A4 A5 C D E c1 c2 c3 c4 c5 F G H x R T B5 B6 B7 V S U d5 d6 d7 W (H5.lw lS.ok kZ) A.gi aa).mono ?_;rintro e w8 ⟨r8,rfl,Eh,al⟩;have Y:Hid (Below a a w8):=J (kZ.trans (al.mono kZ.size));have S8:=And.intro (nine B Y) (nine n Y);clear al)
     |(go_at_call 123;refine(Vg w8 x R T B5 B6 B7 V S U d5 d6 d7 W (H6.lw mc.ok Y) A.M).mono ?_;rintro e w9 ⟨r9,rfl,I7,bf⟩;have Z:Hid (Below a a w9):=J (Y.trans (bf.mono Y.size));have S9:=And.intro (nine B Z) (nine n Z);clear bf)
     |(go_at_call 124;refine(Y8 w9 f (b,o) A2 A3 A4 A5 C D E c1 c2 c3 c4 c5 F G H x R T B5 B6 B7 V S U d5 d6 d7 W (H7.lw md.ok Z) A.o aw A.h).mono ?_;rintro e ao ⟨a5,rfl,ap,oK⟩;have Bl:Hid (Below a a ao):=J (Z.trans (oK.mono Z.size));have a2:=And.intro (nine B Bl) (nine n Bl);clear oK)
     |(go_at_call 86;refine(Xc ao V W x.gR (H8.lw ky.ok Bl) A.gR).mono ?_;rintro e gY ⟨a6,rfl,Nc,iG⟩;have Q:Hid (Below a a gY):=J (Bl.trans (iG.mono Bl.size));have a3:=And.intro (nine B Q) (nine n Q);have w:=Q.size;clear iG)
     |(go_at_call 121;refine(GC _ gY.heap.size [r8,r9,a5,a6] (Bk.new _ _ _) rfl).mono ?_;rintro e aq ⟨ar,rfl,av,Sr⟩;have vT:Hid (Below a a aq):=J ((Q.alloc w _).trans (Sr.mono (Q.alloc w _).size));have a4:=And.intro (nine B vT) (nine n vT);clear Sr))
   have a7:Hid (Below v v aq):=J (X.trans (vT.mono s));have HR:Hid (ar=0->P):=J λh0=>by
    have L:=av h0;refine HP.mpr ⟨⟨HN,by unfold N9;omega,⟨by omega,λp hp=>ZZ p hp⟩,⟨by omega,a1⟩,Eh (L _ (by simp)),I7 (L _ (by simp)),ap (L _ (by simp)),Nc (L _ (by simp))⟩,λj y hj hy=>ac j y hj hy⟩
   clear Eh I7 ap Nc av;go_wp2_with fail
   go_ret
   exact⟨ar,rfl,HR,a7⟩
theorem Jo (j:Gl)(a:List (B×List Int))(Q:List Int->Prop)(d:∀b l,Q (bC j a b [] l).2)(b:Int)(l:List (List B)):∀r∈(aS j a b l).2,Q r:=by
 suffices h:∀q:Int×List (List Int),(∀r∈q.2,Q r)->∀r∈(l.foldl (λq x=>((bC j a q.1 [] x).1,q.2++[(bC j a q.1 [] x).2])) q).2,Q r from h (b,[]) (λr e=>by simp at e)
 induction l with
 |nil=>intro q c;exact c
 |cons x r f=>
  intro q c;rw[o0];refine f _ λy i=> ?_
  rcases jp.1 i with g|g
  .exact c y g
  simp only[js]at g;subst g;exact d _ _
theorem Nf (m:Gl)(b:List (B×List Int))(h:∀t l,b.lookup t=some l->l.length<=2000)(d:Int)(a:List Int)(e:a.length<=1000)(l:List B):(bC m b d a l).2.length<=3001:=by
 have g:∀d a t,a.length<=1000->(iZ m b d a t).2.length<=3001:=by
  intro d a t e;unfold iZ;split
  .split
   .rename_i c f;have:=h _ _ f;show(a++c).length<=_;rw[la];omega
   show a.length<=_;omega
  show(a++[_]).length<=_;rw[la,List.length_singleton];omega
 induction l generalizing d a with
 |nil=>exact nt e (by omega)
 |cons t r i=>
  rw[bC];split
  .exact g d a t e
  split
  .exact g d a t e
  rename_i j k;exact i _ _ (by omega)
theorem ie.asf {p:Nat}{r:Nat}(h:ie w g p b K G s m r):∀t l,s.ia.lookup t=some l->l.length<=2000:=by
 intro t l a;obtain⟨f,j,d⟩:=h.ia;rcases d t with⟨o,_⟩|⟨k,A,c,e,q,n,i⟩
 .rw[o]at a;cases a
 rw[e]at a;cases a;exact i
structure nL (base:Nat)(A:Option Addr)(n:Nat)(hs:List Value)(xs:List (List Int))(w:World):Prop where
 rd:i7 w 22 A n 1 hs
 V:Fl gT 1 w (IB base w) hs xs
theorem nL.mk' {n c:Nat}(d:w.ownsRow b 22 1 (A n c) n a)(e:Fl gT 1 w (IB g w) a j):nL g A n a j w:=⟨jX d,e⟩
theorem nL.reader {n:Nat}{w':World}{p:Nat}(h:nL g A n a j w)(c:i8 w b p x)(d:w.grownBy w' (some b)):nL g A n a j w':=⟨h.rd.grown d (λi e=>by cases e;exact⟨_,_,c,by decide⟩),h.V.ib d (λi e=>by cases e;exact⟨_,_,c,by decide⟩)⟩
theorem nL.below {c:Nat}{n:Nat}{a:List Value}{w w':World}(h:nL c A n a j w)(b:Below w w w'):nL c A n a j w':=⟨h.rd.below b,h.V.ib (az b none) (λg e=>by cases e)⟩
theorem nL.N {n c:Nat}(h:nL b A n a j w)(d:n<=1000000000)(f:∀r∈j,r.length<=1000000000)(g:∀r∈j,∀x∈r,gN x):
  Calls Tryz.prog 105 #[A n c] w λe i=>∃v,e=.returned v/\tv w n (j.map setOf) v i:=
 FR w A n c j a h.rd h.V (λo m=>by obtain⟨-,k,l⟩:=m;exact l.lt) d f g
theorem nL.first {n:Nat}{x:List Int}(h:nL b A n a (x::j) w)(q:0<n):∃s o i d,A=some ⟨s,o,none⟩/\s<w/\w.cell? ⟨s,o,none⟩=some (.slice i x.length d)/\Rd w w.heap.size i x.length 1 (aC x):=by obtain⟨s,o,f,e,c,l⟩:=h.rd.2 q;obtain⟨i,d,m,g⟩:=Xe h.V (k:=0) (r:=x) rfl;exact⟨s,o,i,d,e,c.lt,(c.cell o).trans (l 0 _ m),Zv g (λs c=>by obtain⟨-,f,p⟩:=c;exact p.lt)⟩
theorem ie.ib {n p:Nat}(h:ie w n p b g G s m K){k:Nat}(o:w.heap.size<=k):∀q,IB k f q->Fz f m q:=by rintro q ⟨i,a,c⟩;refine⟨a,_,c,by decide,λj d e=> ?_⟩;have:=((h.live.own j d).lt q e).2;omega
structure sy (r:k'):Prop where
 gE:ip r.gE.length
 ij:ip r.ij.length
 ahead:ip r.ahead.length
 out:ip r.out.length
 gw:ip r.gw.length
theorem fM (h:¬x=y):(x==y)=false:=by simpa using h
theorem iP (h:¬x=y):(x !=y)=true:=by simpa using h
theorem FG (T:Int)(r:k')(q s t u w:Option Addr)(y e g z A:Nat)(B:sy r):Calls Tryz.prog 125 #[T,.agg #[q r.gE.length y,s r.ij.length e,t r.ahead.length g,u r.out.length z,w r.gw.length A,r.x]] v (iz v ((r.gE.length<=6/\r.ij.length<=6/\r.ahead.length<=6)/\r.ij≠[]/\(T=1\/T=5->r.ij.length=1))):=by
 obtain⟨P,j⟩:∃P:Prop,Hid (P=((r.gE.length<=6/\r.ij.length<=6/\r.ahead.length<=6)/\r.ij≠[]/\(T=1\/T=5->r.ij.length=1))):=⟨_,rfl⟩
 rw[<-j.out];obtain⟨C,D,E,F,G⟩:=B;unfold ip at C D E F G;obtain⟨H,K,k,d⟩:=aO v 69 #[q r.gE.length y,s r.ij.length e,t r.ahead.length g,u r.out.length z,w r.gw.length A,r.x];have c:Hid (Below v v H):=J k;have M:=d.cell 0;have N:=d.cell 1;have O:=d.cell 2;clear k d;go_enter Tryz.func125,Tryz.ntmps125
 by_cases Q:6<r.gE.length
 .have p:decide ((6:Int)<r.gE.length)=true:=decide_eq_true (by omega);go_wp2_with fail
  all_goals
   go_ret
   exact iz.bad _ (by decide) c.out
 have p:decide ((6:Int)<r.gE.length)=false:=decide_eq_false (by omega);by_cases R:6<r.ij.length
 .have I:decide ((6:Int)<r.ij.length)=true:=decide_eq_true (by omega);go_wp2_with fail
  all_goals
   go_ret
   exact iz.bad _ (by decide) c.out
 have I:decide ((6:Int)<r.ij.length)=false:=decide_eq_false (by omega);by_cases S:6<r.ahead.length
 .have L:decide ((6:Int)<r.ahead.length)=true:=decide_eq_true (by omega);go_wp2_with fail
  all_goals
   go_ret
   exact iz.bad _ (by decide) c.out
 have L:decide ((6:Int)<r.ahead.length)=false:=decide_eq_false (by omega);have e:(T==1)=false\/T=1:=by by_cases h:T=1;exact .inr h;exact .inl (fM h)
 have g:(T==2)=false\/T=2:=by by_cases h:T=2;exact .inr h;exact .inl (fM h)
 have l:(T==5)=false\/T=5:=by by_cases h:T=5;exact .inr h;exact .inl (fM h)
 have m:(T==6)=false\/T=6:=by by_cases h:T=6;exact .inr h;exact .inl (fM h)
 rcases e with e|hk1
 .rcases g with g|hk2
  .rcases l with l|hk5
   .by_cases b:0<r.ij.length
    .have o:((r.ij.length:Int)==0)=false:=fM (by omega);have f:P:=j.out.mpr ⟨⟨by omega,by omega,by omega⟩,(by intro i;rw[i]at b;simp at b),λh=>by rcases h with rfl|rfl;exact absurd e (by decide);exact absurd l (by decide)⟩;rcases m with m|hk6
     .go_wp2_with fail
      go_ret
      exact iz.O f c.out
     subst hk6;go_wp2_with fail
     all_goals
      go_ret
      first
       |exact iz.O f c.out
       |exact iz.bad _ (by decide) c.out
    have o:((r.ij.length:Int)==0)=true:=by rw[show r.ij.length=0 by omega];rfl
    go_wp2_with fail
    go_ret
    exact iz.bad _ (by decide) c.out
   clear e g m;subst hk5;by_cases a:r.ij.length=1
   .have b:0<r.ij.length:=by omega
    have f:P:=j.out.mpr ⟨⟨by omega,by omega,by omega⟩,(by intro i;rw[i]at b;simp at b),(by omega)⟩;have o:((r.ij.length:Int)==0)=false:=fM (by omega);have n:((r.ij.length:Int) !=1)=false:=by rw[a];rfl
    clear a;go_wp2_with fail
    go_ret
    exact iz.O f c.out
   have n:((r.ij.length:Int) !=1)=true:=iP (by omega);go_wp2_with fail
   all_goals
    go_ret
    exact iz.bad _ (by decide) c.out
  clear e l m;subst hk2;by_cases a:r.ij.length=1
  .have b:0<r.ij.length:=by omega
   have f:P:=j.out.mpr ⟨⟨by omega,by omega,by omega⟩,(by intro i;rw[i]at b;simp at b),(by omega)⟩;have o:((r.ij.length:Int)==0)=false:=fM (by omega);have n:((r.ij.length:Int) !=1)=false:=by rw[a];rfl
   clear a;go_wp2_with fail
   go_ret
   exact iz.O f c.out
  have n:((r.ij.length:Int) !=1)=true:=iP (by omega);go_wp2_with fail
  all_goals
   go_ret
   exact iz.bad _ (by decide) c.out
 clear g l m;subst hk1;by_cases a:r.ij.length=1
 .have b:0<r.ij.length:=by omega
  have f:P:=j.out.mpr ⟨⟨by omega,by omega,by omega⟩,(by intro i;rw[i]at b;simp at b),(by omega)⟩;have o:((r.ij.length:Int)==0)=false:=fM (by omega);have n:((r.ij.length:Int) !=1)=false:=by rw[a];rfl
  clear a;go_wp2_with fail
  go_ret
  exact iz.O f c.out
 have n:((r.ij.length:Int) !=1)=true:=iP (by omega);go_wp2_with fail
 all_goals
  go_ret
  exact iz.bad _ (by decide) c.out
theorem sM (C f p q:Nat)(M:Gl)(K d:Int)(h j k:Value)(A:Option Addr)(n c:Nat)(L:List P3)(r:Bk v C oU #[h,j,k,(),(),.int .i64 0])(s:i8 v f p d)(B:qT v p q M)(D:p<v)(E:p≠f)(F:p≠C)(G:q≠f)(H:q≠C)(u:i7 v fE A n 3 (dP L))(w:∀x∈L,x.2.2.length<=800000000)(y:n<=1000000000)(g:fF K (af L)=true)(b i a:List (List Int)):
  Calls Tryz.prog 106 #[.pointer (f,0),K,A n c,.pointer (C,0)] v λe I=>e=.returned (.tuple #[])/\pE v C f p h j k (mr M K d (af L)) (dL M K b i a (af L)).out (dL M K b i a (af L)).gw (dL M K b i a (af L)).x I:=by
 unfold dL mr;simp only;by_cases o:K=1\/K=2\/K=3\/K=5
 .rw[if_pos o,if_pos o,if_neg (by omega),if_neg (by omega)];exact Db v C f p q M K d h j k A n c L o r s B D E F G H u y
 rw[if_neg o,if_neg o];by_cases l:K=4
 .rw[if_pos l,if_pos l,if_neg (by omega)];subst l;exact Da v C f p d h j k A n c L r s u w y
 rw[if_neg l,if_neg l];by_cases m:K=6
 .rw[if_pos m,if_pos m]
  unfold fF at g;rw[if_neg l,if_pos m]at g;obtain⟨t,z⟩:∃t,af L=[t]:=by
   match af L,g with
   |[t],_=>exact⟨t,rfl⟩
  subst m;rw[z];exact I0 v C f p d h j k A n c L r s u w z
 rw[if_neg m,if_neg m];exact IT v C f p K d h j k A n c r s (by omega)
