/- Lemmas. -/
import Derived.Test.YtalehhjjbadlpaaGreatDoorX03
import Derived.Test.YtalehhjjbadlpaaGreatDoorShelf
import Derived.Lib.MakeNoZero
set_option linter.all false
set_option maxRecDepth 100000
set_option maxHeartbeats 32000000
namespace Go.Proofs.YtalehhjjbadlpaaGreatDoor
open Go.RowKit
variable(v:World){b a:World}{g f d:Nat}{j:List Value}{l:List hU}{q:Nat->Value}{A:Option Addr}{T K:TypeId}{z:Value}{Q:Exit->Act->World->Prop}{u:Array Value}{o:Int}{α:Type}{i:Gl}{H:Array Oper}{W:List B}{U:Oper}{n:B}{k:Act}{S:Bs}
def rm (w:World)(g:Nat)(a:Nat->Value)(b v:Value):Prop:=Bk w g 108 #[a 0,a 1,a 2,a 3,a 4,a 5,a 6,a 7,a 8,b,v]
def Pr (w:World)(d g:Nat)(c:Nat->Value)(a:B):Prop:=∃b v,d<=g/\rm w g c b v/\(b=.pointer none\/b=.pointer (g,9))/\w.ownsRow d 5 1 v a.length (Lib.byteCells a)
def wv (w:World)(c g:Nat)(b:Nat->Value)(a:B):Prop:=∃v,c<=g/\rm w g b (.pointer (g,9)) v/\w.ownsRow c 5 1 v a.length (Lib.byteCells a)
theorem wv.pr (h:wv b f g q n):Pr b f g q n:=by obtain⟨v,c,d,e⟩:=h;exact⟨_,v,c,d,.inr rfl,e⟩
theorem Pr.lt (h:Pr b f g q n):f<=g/\g<b.heap.size:=by obtain⟨e,v,c,d,-⟩:=h;exact⟨c,Bk.lt d⟩
theorem TB {k:Nat}{c:TypeId}{a:Array Value}(h:Bk b g T u)(e:Bk b k c a)(l:T≠c):g≠k:=by
 rintro rfl;have f:b.heap[g]?=_:=h;have d:b.heap[g]?=_:=e;rw[f]at d;injection d with i
 injection i with _ j
 exact l j
theorem Oa {n:Nat}{k:List Value}(h:b.ownsRow f T d z n k)(i:Bk b g K u)(a:T≠K):z.ownBlock≠some g:=by intro c;obtain⟨v,t⟩:=iI h g c;exact TB t i a rfl
theorem DL {c:Nat}{n:Nat}(h:b.ownsRow c T f z n j)(v:Bk b g K u)(a:T≠K)(i:Nat)(t:Value):(b.setCell (g,i) t).ownsRow c T f z n j:=h.kept (row:=some g) (aX (p:=(g,i)) (World.grownBy.refl _ _) (.inl rfl) _) (.inr (Oa h v a))
theorem KP.store (h:Bk b g 108 u)(i:Nat)(e:Value):KP b (b.setCell (g,i) e):=
 ⟨λw o a c=>by
  refine(Below.heap_setCell b (g,i) e w ?_).trans a;rintro rfl;have d:b.heap[w]?=_:=h;rw[d]at a;injection a with a
  subst a;exact c.2 rfl,by simp⟩
theorem KP.grown {w':World}{n:Nat}{k:List Value}(d:b.ownsRow g 5 1 z n k)(c:b.grownBy w' z.ownBlock):KP b w':=
 ⟨λj o a f=>by
  refine(c.block j (mq.1 a).1 ?_).trans a;intro e;obtain⟨v,h⟩:=iI d j e.symm;have i:b.heap[j]?=_:=h;rw[i]at a;injection a with a
  subst a;exact f.1 rfl,c.size⟩
theorem ow:(Tryz.prog.info? 5).map (λi=>(i.zero,i.size,i.bytes))=some (some (.int .u8 0),1,1):=by kernel_rfl
theorem mI:(Tryz.prog.info? 106).map (λi=>i.size)=some 2:=by kernel_rfl
theorem oR:liesAt Tryz.prog Tryz.prog.depth 108 (11 / Tryz.prog.cellsOf 108) 9 106 1=true:=by kernel_rfl
theorem rm.shape {v:Value}(h:rm b g q z v):b.shape? g=some (108,11):=by unfold rm Bk at h;simp[World.shape?,h]
theorem XQ (g:Nat)(w:World)(c:w.cell? (g,9)=some (.pointer (g,9))):
  Calls Tryz.prog 108 #[.pointer (g,9)] w λe a=>e=.returned (.tuple #[])/\w=a:=by
 obtain⟨j,b,_⟩:=Option.map_eq_some_iff.1 mI;go_enter Tryz.func108,Tryz.ntmps108
 go_wp2;rw[Lib.run_neq_ptr_same w _ Tryz.underlying103 b];go_wp2
 go_end0
 exact⟨rfl,rfl⟩
theorem UX (g:Nat)(w:World)(d:Nat->Value)(v:Value)(h:rm w g d (.pointer none) v):
  Calls Tryz.prog 108 #[.pointer (some ⟨g,9,none⟩)] w λe f=>e=.returned (.tuple #[])/\f=w.setCell ⟨g,9,none⟩ (.pointer (some ⟨g,9,none⟩)):=by
 obtain⟨j,c,b⟩:=Option.map_eq_some_iff.1 mI;have k:w.cell? ⟨g,9,none⟩=some (.pointer none):=h.cell 9;have i:w.frozen? ⟨g,9,none⟩=false:=h.frozen 9;have a:=h.shape;go_enter Tryz.func108,Tryz.ntmps108
 go_wp2;rw[Lib.run_to_unsafe w ⟨g,9,none⟩ Tryz.underlying103 Tryz.underlying225 c (by rw[b];decide) a (show 9<11 by decide)];simp only[Result.andThen];rw[Oper.upon_value];go_wp2;rw[run_callFunc_extern Tryz.func144 (by kernel_rfl) (by kernel_rfl) (by kernel_rfl) (e:=Extern.AbiNoEscape.same) (by kernel_rfl)];rw[Lib.run_noEscape];simp only[Result.andThen];rw[Oper.upon_value];go_wp2;rw[Lib.run_from_unsafe w ⟨g,9,none⟩ Tryz.underlying225 Tryz.underlying103 c a oR];simp only[Result.andThen];rw[Oper.upon_value];go_wp2
 go_end0
 exact⟨rfl,rfl⟩
theorem Rl (k g:Nat)(d:Nat->Value)(b:B)(h:Pr v k g d b):
  Calls Tryz.prog 108 #[.pointer (g,9)] v λe c=>e=.returned (.tuple #[])/\wv c k g d b/\KP v c/\Below k v c:=by
 obtain⟨j,w,f,a,h3|h3,i⟩:=h
 .subst h3;refine(UX g v d w a).mono ?_;rintro e c ⟨rfl,rfl⟩;refine⟨rfl,⟨w,f,?_,DL i a (by decide) _ _⟩,KP.store a _ _,(gD _ _).setCell (p:=(g,9)) f _⟩;have:=Bk.set a 9 (.pointer (g,9));exact this
 subst h3;refine(XQ g v (Bk.cell a 9)).mono ?_;rintro e c ⟨rfl,rfl⟩;exact⟨rfl,⟨w,f,a,i⟩,KP.refl _,gD _ _⟩
theorem Es (a b:B):Lib.byteCells (a++b)=Lib.byteCells a++Lib.byteCells b:=by simp[Lib.byteCells]
theorem GZ (V g:Nat)(o:Nat->Value)(d:B)(c:UInt8)(h:Pr v V g o d)(E:d.length<=1000000000000):
  Calls Tryz.prog 62 #[.pointer (g,9),.int .u8 c.toNat] v λe s=>e=.returned .nilIface/\Pr s V g o (d++[c])/\KP v s/\Below V v s:=by
 obtain⟨U,hi,t,x,y⟩:=info_parts ow;have K:=h.lt;go_enter Tryz.func62,Tryz.ntmps62
 go_wp2_with (go_at_call 108;refine(Rl _ V g o d h).mono ?_)
 rintro e F ⟨rfl,⟨w,G,l,b⟩,z,n⟩;have L:=n.size;have Q:F.cell? (g,10)=some w:=Bk.cell l 10;go_wp2_with (at_builtin;refine wpList_append_own _ rfl _ _ 104 rfl V 5 U (.int .u8 0) 1 1 Tryz.underlying104 hi t x y rfl (by decide) _ _ _ rfl (b.alloc _) (F,0) 1 1 [.int .u8 c.toNat] rfl rfl ?c1 ?c2 ?c3 ?c4 ?c5 ?_)
 case c1=>
  intro j u q
  match j,q with
  |0,q=>simp at q;subst q;simp[Addr.add]
 case c2=>intro u H;simp at H;subst H;rfl
 case c3=>unfold maxLen;omega
 case c4=>omega
 case c5=>simp;omega
 intro M A f a _;have I:=Bk.lt l;have C:=Bk.alloc l (.cells #[.int .u8 c.toNat] 5);have i:rm A g o (.pointer (g,9)) w:=(a.block g (by simp;omega) (λe=>Oa b l (by decide) e.symm)).trans C;have R:A.cell? (g,10)=some w:=Bk.cell i 10;have S:A.frozen? (g,10)=false:=Bk.frozen i 10;have D:=J i;obtain⟨r,m,rfl⟩:∃r m,M=.slice (some ⟨r,0,none⟩) (d.length+1) m:=by
  rcases f.2 with⟨_,T⟩|⟨r,m,N,O,_⟩
  .omega
  exact⟨r,m,O⟩
 go_wp2;go_ret
 refine⟨rfl,⟨_,_,G,Bk.set D 10 _,.inr rfl,?_⟩,?_,?_⟩
 .refine DL ?_ D (by decide) _ _;rw[Es,la];simpa [Lib.byteCells]using f
 .exact((z.trans (KP.alloc _ _)).trans (KP.grown (b.alloc _) a)).trans (KP.store D _ _)
 exact((n.alloc (by omega) _).grown a (by simp;omega) (λk P=>(b.lt k P).1)).setCell (p:=(g,10)) G _
theorem CQ (R g:Nat)(n:Nat->Value)(f s:B)(h:Pr v R g n f)(A:f.length+s.length<=1000000000000):
  Calls Tryz.prog 61 #[.pointer (g,9),.string s] v λe o=>e=.returned (.tuple #[s.length,.nilIface])/\Pr o R g n (f++s)/\KP v o/\Below R v o:=by
 obtain⟨F,hi,q,r,t⟩:=info_parts ow;have G:=h.lt;go_enter Tryz.func61,Tryz.ntmps61
 go_wp2_with (go_at_call 108;refine(Rl _ R g n f h).mono ?_)
 rintro e H ⟨rfl,⟨w,C,i,c⟩,u,l⟩;have I:=l.size;have M:H.cell? (g,10)=some w:=Bk.cell i 10;go_wp2_with (at_builtin;refine Lib.wpList_append_own_string _ rfl _ _ 104 9 rfl R 5 F Tryz.underlying104 Tryz.underlying9 hi q r t _ _ _ rfl c ⟨s.toArray⟩ rfl ?c3 ?c4 ?c5 ?_)
 case c3=>
  have e:(⟨s.toArray⟩:ByteArray).size=s.length:=by rfl
  rw[e];unfold maxLen;omega
 case c4=>
  have e:(⟨s.toArray⟩:ByteArray).size=s.length:=by rfl
  rw[e];omega
 case c5=>omega
 intro Q x a b _;have m:=Bk.lt i;have d:rm x g n (.pointer (g,9)) w:=(b.block g m (λe=>Oa c i (by decide) e.symm)).trans i;have N:x.cell? (g,10)=some w:=Bk.cell d 10;have O:x.frozen? (g,10)=false:=Bk.frozen d 10;have y:=J d;obtain⟨D,E,j,rfl⟩:∃D E j,Q=.slice D E j:=by
  rcases a.2 with⟨z,_⟩|⟨P,j,K,z,_⟩
  .exact⟨_,_,_,z⟩
  exact⟨_,_,_,z⟩
 go_wp2
 go_ret2
 refine⟨rfl,⟨_,_,C,Bk.set y 10 _,.inr rfl,?_⟩,?_,?_⟩
 .refine DL ?_ y (by decide) _ _;rw[Es,la];have e:Lib.strCells ⟨s.toArray⟩=Lib.byteCells s:=by simp[Lib.strCells,Lib.byteCells]
  rw[e]at a;simpa using a
 .exact(u.trans (KP.grown c b)).trans (KP.store y _ _)
 exact(l.grown b (by omega) (λk L=>(c.lt k L).1)).setCell (p:=(g,10)) C _
theorem XP (K g:Nat)(s:Nat->Value)(l:B)(h:Pr v K g s l)(o:l≠[]):
  Calls Tryz.prog 27 #[.pointer (g,9)] v λe t=>e=.returned (.string l)/\Below K v t:=by
 obtain⟨G,w,H,d,-,c⟩:=h;have f:l.length≠0:=by simpa using o
 obtain⟨q,a,b,rfl,i,u,y,k,z,m⟩:∃q a b,w=.slice (some ⟨q,0,none⟩) l.length a/\K<=q/\v.heap[q]?=some (.cells b 5 (0,0))/\l.length<=a/\a<=maxLen/\b.size=a*1/\b.toList.take (l.length*1)=Lib.byteCells l:=by
  rcases c.2 with⟨_,A⟩|⟨q,a,b,C,r⟩
  .exact absurd A f
  exact⟨q,a,b,C,r⟩
 have I:v.drew.cell? (g,10)=some (.slice (some ⟨q,0,none⟩) l.length a):=Bk.cell d 10;have D:(Builtin.unsafeSliceData_ #[104] 146 #[.slice (some ⟨q,0,none⟩) l.length a]).run Tryz.prog v.drew=.ok (.pointer (some ⟨q,0,none⟩)) v.drew:=Lib.run_unsafeSliceData_row _ _ _ _ _ _ (by omega);have E:(Builtin.unsafeString_ #[146,3] 9 #[.pointer (some ⟨q,0,none⟩),l.length]).run Tryz.prog v.drew=.ok (.string l) (v.drew.freeze ⟨q,0,none⟩ l.length):=by refine Lib.run_unsafeString_row v.drew 146 3 9 5 Tryz.underlying146 (by kernel_rfl) q b.size (by have n:v.drew.heap[q]?=some (.cells b 5 (0,0)):=u;simp[World.shape?,n]) l o (by omega) (by unfold maxLen at k;omega) ?_;intro j x F;have:=c.cells (g:=q) rfl j (.int .u8 x.toNat) (by simp[Lib.byteCells,F]);exact this
 go_enter Tryz.func27,Tryz.ntmps27
 go_wp2;go_region
 all_goals (go_wp2;go_ret;exact⟨rfl,Lib.below_freeze (Below.drew (gD K v)) (p:=⟨q,0,none⟩) i _⟩)
def Bp (σ :B×List B):List B:= σ.2++if σ.1=[]then []else [σ.1]
def Tw (σ :B×List B)(c:UInt8):B×List B:=if blank c then([],Bp σ)else(σ.1++[c],σ.2)
def Vc (l:B):B×List B:=l.foldl Tw ([],[])
def texts (l:B):List B:=Bp (Vc (code l))
def tl:Nat->List B->List (Int×List B)
 |_,[]=>[]
 |n,p::a=>(if texts p=[]then []else [((n:Int),texts p)])++tl (n+1) a
def ahead (one:B)(k:Nat)(r:B):B:=match k with|0=>r|k+1=>one++10::ahead one k r
theorem Cp (a:B):(iU a).length=a.count 10+1:=by
 induction a with
 |nil=>rfl
 |cons c r d=>
  by_cases b:c=10
  .subst b;rw[iU,if_pos rfl,aV,d,List.count_cons_self]
  rw[iU,if_neg b,List.count_cons_of_ne b];cases e:iU r with
  |nil=>exact absurd e (Ub r)
  |cons p f=>rw[<-d,e];rfl
section
open Go.Shelf
attribute [local go_sem] Oper.semAt_some
attribute [-go_sem] Builtin.append_
theorem ON:(Tryz.prog.info? 96).map (λi=>(i.zero,i.size,i.bytes))=some (some (.slice none 0 0),1,24):=by kernel_rfl
theorem Is (s:B):Calls Tryz.prog 40 #[.string ⟨s.toArray⟩,.string ⟨#[10]⟩] v λe a=>
  e=.returned (.func (.func 128) #[] #[.pointer (some ⟨v.heap.size+1,0,none⟩),.pointer (some ⟨v.heap.size,0,none⟩),.pointer (some ⟨v.heap.size+1+1,0,none⟩)])/\
   a=((v.alloc (.cells #[.string ⟨s.toArray⟩] 9)).alloc (.cells #[.string ⟨#[10]⟩] 9)).alloc (.cells #[.int .i64 0] 3):=by
 go_enter Tryz.func40,Tryz.ntmps40
 go_wp2;go_ret
 exact⟨rfl,rfl⟩
def WI (w:World)(a:List Ln)(W:World):Prop:=
 Bk W (w.heap.size+1) 3 #[.int .i64 a.length]/\(∃z,Bk W (w.heap.size+1+1) 9 #[z])/\
  (∃A c b,Bk W w.heap.size 86 #[.slice A b.length c]/\W.ownsRow (w.heap.size+5) 96 1 (.slice A b.length c) b.length b/\RowsIn 101 W b (bY 1 (a.map (·.1))))/\
  Below w.heap.size w W/\w.heap.size+5<=W.heap.size
theorem Dd {row:Option Nat}(m:b.grownBy a row)(c:∀r,row=some r->∃o:Obj,b.heap[r]?=some o/\o.isCells=false){k n:Nat}(h:b.ownsRow k g f z n j):a.ownsRow k g f z n j:=by
 refine h.kept m ?_;rcases h.2 with⟨rfl,_⟩|⟨C,d,l,rfl,_,i,_⟩
 .exact .inl rfl
 refine .inr (λg=> ?_);obtain⟨o,v,A⟩:=c C g.symm;rw[i]at v;cases v;cases A
theorem Sf (B:Nat)(m:v.heap.size<=B):OwnFrom B (WI v):=by
 intro s A C c n b g;obtain⟨h,⟨z,i⟩,⟨p,q,d,j,t,u⟩,l,w⟩:=n;have a:∀r,c=some r->∃o:Obj,A.heap[r]?=some o/\o.isCells=false:=λr e=>(g r e).2
 refine⟨(grownBy_keeps_cells b a h rfl).trans h,⟨z,(grownBy_keeps_cells b a i rfl).trans i⟩,⟨p,q,d,(grownBy_keeps_cells b a j rfl).trans j,Dd b a t,u.kept λ_ _ _ f=>f.other b a⟩,?_,nt w b.size⟩;exact l.grown b l.size (λk e=>nt m (g k e).1)
theorem Ij {n:Nat}(h:i7 b T A n f j)(d:Bk b g K u)(c:T≠K)(i:Nat)(t:Value):i7 (b.setCell ⟨g,i,none⟩ t) T A n f j:=h.grown (aX (p:=⟨g,i,none⟩) (World.grownBy.refl _ _) (.inl rfl) _) (λr e=>by cases e;exact⟨u,K,d,c⟩)
theorem Mq (a:List Ln)(W:World)(w:Value)(h:WI v a W):WI v a (W.setCell ⟨v.heap.size+1+1,0,none⟩ w):=by obtain⟨e,⟨z,d⟩,⟨f,g,b,i,j,k⟩,l,m⟩:=h;refine⟨e.I (by simp) _,⟨w,d.set 0 _⟩,⟨f,g,b,i.I (by simp<;>omega) _,ownsRow_setCell_below j (by simp<;>omega) _,k.kept λ_ _ _ c=>Ij c d (by decide) 0 w⟩,l.setCell (by simp;omega) _,by simpa using m⟩
theorem WN (h:∀d,g<=d->d<g+3->a.heap[d]?=b.heap[d]?):nQ (XK g) b a:=by
 rintro d (rfl|rfl|rfl) o c -
 .rw[h _ (by omega) (by omega)];exact c
 .rw[h _ (by omega) (by omega)];exact c
 rw[h _ (by omega) (by omega)];exact c
theorem My (w W D:World)(c:List Ln)(x:Ln)(p:WI w c W)(q:one x.1=[])(f:Below (W.setCell ⟨w.heap.size+1,0,none⟩ (.int .i64 ((c.length:Int)+1))).heap.size (W.setCell ⟨w.heap.size+1,0,none⟩ (.int .i64 ((c.length:Int)+1))) D):
  WI w (c++[x]) D/\nQ (XK (w.heap.size+1+1)) W D/\KeepsOthers W D:=by
 obtain⟨g,⟨z,l⟩,⟨r,s,h,m,t,u⟩,v,C⟩:=p;have e:(W.setCell ⟨w.heap.size+1,0,none⟩ (.int .i64 ((c.length:Int)+1))).heap.size=W.heap.size:=by simp
 rw[e]at f;have y:=g.set 0 (.int .i64 ((c.length:Int)+1));have d:∀b,b<W.heap.size->D.heap[b]?=_:=λb i=>f.block b i
 refine⟨⟨?_,⟨z,?_⟩,⟨r,s,h,?_,?_,?_⟩,?_,?_⟩,?_,?_⟩
 .have:=(d _ g.lt).trans y;simpa [Bk]using this
 .exact(d _ l.lt).trans (l.I (by simp) _)
 .exact(d _ m.lt).trans (m.I (by simp) _)
 .refine gj (ownsRow_setCell_below t (a:=⟨w.heap.size+1,0,none⟩) (by simp) (.int .i64 ((c.length:Int)+1))) ?_;rw[e];exact f
 .rw[ra,lP,p9,BX,if_pos q,pp];refine u.kept λ_ _ _ k=>(Ij k g (by decide) 0 (.int .i64 ((c.length:Int)+1))).below ?_
  rw[e];exact f
 .exact(v.setCell (by simp) _).trans (f.mono (by omega))
 .have:=f.size;rw[e]at this;omega
 .exact WN λb A B=>(d b (by omega)).trans (Below.heap_setCell _ _ _ _ (by simp;omega))
 refine(KeepsOthers.setCell W _ _).trans ⟨f.size,λj o n _=> ?_⟩;exact(f.block j (by have:=(mq.1 n).1;rw[e]at this;exact this)).trans n
theorem Mz (w W w2:World)(f:List Ln)(x:Ln)(A0 A2:Option Addr)(c0 c2:Nat)(d:List Value)(hl:f.length<=800000000)(F:Bk W (w.heap.size+1) 3 #[.int .i64 f.length])(G:∃z,Bk W (w.heap.size+1+1) 9 #[z])
  (U:Bk W w.heap.size 86 #[.slice A0 d.length c0]) (V:W.ownsRow (w.heap.size+5) 96 1 (.slice A0 d.length c0) d.length d) (O:RowsIn 101 W d (bY 1 (f.map (·.1)))) (X:Below w.heap.size w W) (h7:w.heap.size+5<=W.heap.size)
  (Y:one x.1≠[]) (n:Below (W.setCell ⟨w.heap.size+1,0,none⟩ (.int .i64 ((f.length:Int)+1))).heap.size (W.setCell ⟨w.heap.size+1,0,none⟩ (.int .i64 ((f.length:Int)+1))) w2)
  (i:w2.ownsRow (W.setCell ⟨w.heap.size+1,0,none⟩ (.int .i64 ((f.length:Int)+1))).heap.size 101 3 (.slice A2 (one x.1).length c2) (one x.1).length (dP (num (f.length+1) (one x.1)))):
  ∃A3 c3 l,(Builtin.append_ #[86,86] 86 #[.slice A0 d.length c0,.slice (some ⟨w2.heap.size,0,none⟩) 1 1]).run Tryz.prog (w2.alloc (.cells #[.slice A2 (one x.1).length c2] 96))=.ok (.slice A3 (d.length+1) c3) l/\
   w2.cell? ⟨w.heap.size,0,none⟩=some (.slice A0 d.length c0)/\l.cell? ⟨w.heap.size,0,none⟩=some (.slice A0 d.length c0)/\l.frozen? ⟨w.heap.size,0,none⟩=false/\
   WI w (f++[x]) (l.setCell ⟨w.heap.size,0,none⟩ (.slice A3 (d.length+1) c3))/\nQ (XK (w.heap.size+1+1)) W (l.setCell ⟨w.heap.size,0,none⟩ (.slice A3 (d.length+1) c3))/\KeepsOthers W (l.setCell ⟨w.heap.size,0,none⟩ (.slice A3 (d.length+1) c3)):=by
 obtain⟨Z,H,I,ao,K⟩:=info_parts ON;obtain⟨z,G⟩:=G;have h:(W.setCell ⟨w.heap.size+1,0,none⟩ (.int .i64 ((f.length:Int)+1))).heap.size=W.heap.size:=by simp
 rw[h]at n;rw[h]at i;have aa:d.length<=800000000:=by have Q:=O.1;have a2:=EF 1 (f.map (·.1));rw[lE]at a2;omega
 have ab:W.heap.size<=w2.heap.size:=by have:=n.size;rw[h]at this;exact this
 have q:∀b,b<W.heap.size->w2.heap[b]?=_:=λb r=>n.block b r
 have s:∀b,b<W.heap.size->b≠w.heap.size+1->w2.heap[b]?=W.heap[b]? :=λb r L=>(q b r).trans (Below.heap_setCell _ _ _ _ (by simpa using L))
 have u:w2.ownsRow (w.heap.size+5) 96 1 (.slice A0 d.length c0) d.length d:=by refine gj (ownsRow_setCell_below V (a:=⟨w.heap.size+1,0,none⟩) (by simp) (.int .i64 ((f.length:Int)+1))) ?_;rw[h];exact n
 have q5:RowsIn 101 w2 d (bY 1 (f.map (·.1))):=by
  refine O.kept λ_ _ _ t=>(Ij t F (by decide) 0 (.int .i64 ((f.length:Int)+1))).below ?_
  rw[h];exact n
 have q1:Bk w2 (w.heap.size+1) 3 #[.int .i64 ((f.length:Int)+1)]:=(q _ F.lt).trans (F.set 0 _);have q2:Bk w2 (w.heap.size+1+1) 9 #[z]:=(s _ (by omega) (by omega)).trans G;have R:Bk w2 w.heap.size 86 #[.slice A0 d.length c0]:=(s _ (by omega) (by omega)).trans U;have S:Below w.heap.size w w2:=(X.setCell (by simp) _).trans (n.mono (by omega));obtain⟨v3,l,v,m,y,ac⟩:=rC (P:=Tryz.prog) (w2.alloc (.cells #[.slice A2 (one x.1).length c2] 96)) (w.heap.size+5) 86 86 96 Z _ 1 24 Tryz.underlying86 H I ao K rfl (by decide) (.slice A0 d.length c0) d.length _ (u.alloc _) (w2.heap.size+1) (some ⟨w2.heap.size,0,none⟩) 1 1 [.slice A2 (one x.1).length c2] (Rd.new w2 #[.slice A2 (one x.1).length c2] 96 1 1 rfl) (by simp[Value.oneCell']) (by simp only[maxLen];omega) (by omega) (by simp;omega);obtain⟨A3,c3,rfl,-⟩:=Rd.U m;have A:∀k,k<w.heap.size+5->some k≠(Value.slice A0 d.length c0).ownBlock:=λk B e=>by have:=(u.lt k e.symm).1;omega
 have C:∀k,k<w.heap.size+5->l.heap[k]?=w2.heap[k]? :=λk B=>(y.block k (by simp;omega) (A k B)).trans (Below.heap_alloc _ _ _ (by omega))
 have D:Bk l w.heap.size 86 #[.slice A0 d.length c0]:=(C _ (by omega)).trans R;have s3:w2.heap.size+1<=l.heap.size:=by have:=y.size;simpa using this
 refine⟨A3,c3,l,v,R.cell 0,D.cell 0,D.frozen 0,⟨?_,⟨z,?_⟩,⟨A3,c3,d++[.slice A2 (one x.1).length c2],?_,?_,?_⟩,?_,?_⟩,?_,?_⟩
 .have:=Bk.I (p:=⟨w.heap.size,0,none⟩) ((C _ (by omega)).trans q1) (by simp) (.slice A3 (d.length+1) c3);simpa using this
 .exact Bk.I ((C _ (by omega)).trans q2) (by simp;omega) _
 .have:=D.set 0 (.slice A3 (d.length+1) c3);simpa using this
 .have:=ownsRow_setCell_below m (a:=⟨w.heap.size,0,none⟩) (by simp) (.slice A3 (d.length+1) c3);simpa using this
 .rw[ra,lP,p9,BX,if_neg Y,lE];have t:i7 w2 101 A2 (one x.1).length 3 (dP (num (f.length+1) (one x.1))):=jX i;have Q:=((q5.snoc t (c:=c2) (yP i)).alloc (.cells #[.slice A2 (one x.1).length c2] 96)).grown (u.alloc _) y (by decide);exact Q.kept λ_ _ _ hr=>Ij hr D (by decide) 0 _
 .exact((S.alloc S.size _).grown y (by simp;omega) (λg M=>by have:=(u.lt g M).1;omega)).setCell (by simp) _
 .simp;omega
 .exact WN λb ad ak=>(Below.heap_setCell _ _ _ _ (by simp;omega)).trans ((C b (by omega)).trans (s b (by omega) (by omega)))
 refine KeepsOthers.trans (KeepsOthers.trans (KeepsOthers.trans (KeepsOthers.trans (KeepsOthers.setCell W _ _) ⟨n.size,λj o E _=> ?_⟩) (KeepsOthers.alloc w2 _)) (KeepsOthers.of_grownBy y (λj o E T=> ?_))) (KeepsOthers.setCell _ _ _)
 .exact(n.block j (by have:=(mq.1 E).1;rw[h]at this;exact this)).trans E
 obtain⟨al,B⟩:=iI (u.alloc (.cells #[.slice A2 (one x.1).length c2] 96)) j E;have N:(w2.alloc (.cells #[.slice A2 (one x.1).length c2] 96)).heap[j]?=_:=B;rw[N]at T;cases T;rfl
theorem Ki (s:B)(hs:s.length<=800000000):Calls Tryz.prog 16 #[.string ⟨s.toArray⟩] v λe w'=>∃w,e=.returned w/\yM 101 96 v w' (iH s) w:=by
 refine(callsIn_wide (n:=20)).1 ?_;refine callsIn_of_wp_marks Tryz.func16 rfl trivial ?_ rfl;simp only[Tryz.ntmps16,List.size_toArray,aV,ln,Nat.reduceAdd,Nat.reduceSub,Array.replicate_succ,Array.replicate_zero,List.push_toArray,List.append_toArray,pG,nw]
 gi_wp2_with fail
 refine⟨trivial,?_⟩;refine(callsIn_wide.2 (Is _ s)).mono ?_;rintro e g ⟨rfl,c⟩;have O:Bk g v.heap.size 86 #[.slice none 0 0]:=by rw[c];exact((((Bk.new v 86 _).alloc _).alloc _).alloc _).alloc _
 have P:Bk g (v.heap.size+1) 3 #[.int .i64 0]:=by rw[c];have:=(((Bk.new (v.alloc (.cells #[.slice none 0 0] 86)) 3 #[.int .i64 0]).alloc (.cells #[.string ⟨s.toArray⟩] 9)).alloc (.cells #[.string ⟨#[10]⟩] 9)).alloc (.cells #[.int .i64 0] 3);simp only[World.size_alloc]at this;exact this
 have C:Bk g (v.heap.size+1+1) 9 #[.string ⟨s.toArray⟩]:=by rw[c];have:=((Bk.new ((v.alloc (.cells #[.slice none 0 0] 86)).alloc (.cells #[.int .i64 0] 3)) 9 #[.string ⟨s.toArray⟩]).alloc (.cells #[.string ⟨#[10]⟩] 9)).alloc (.cells #[.int .i64 0] 3);simp only[World.size_alloc]at this;exact this
 have Q:Bk g (v.heap.size+1+1+1) 9 #[.string ⟨#[10]⟩]:=by rw[c];have:=(Bk.new (((v.alloc (.cells #[.slice none 0 0] 86)).alloc (.cells #[.int .i64 0] 3)).alloc (.cells #[.string ⟨s.toArray⟩] 9)) 9 #[.string ⟨#[10]⟩]).alloc (.cells #[.int .i64 0] 3);simp only[World.size_alloc]at this;exact this
 have R:Bk g (v.heap.size+1+1+1+1) 3 #[.int .i64 0]:=by rw[c];have:=Bk.new ((((v.alloc (.cells #[.slice none 0 0] 86)).alloc (.cells #[.int .i64 0] 3)).alloc (.cells #[.string ⟨s.toArray⟩] 9)).alloc (.cells #[.string ⟨#[10]⟩] 9)) 3 #[.int .i64 0];simp only[World.size_alloc]at this;exact this
 have p:Below v.heap.size v g:=by rw[c];exact(((((gD _ v).alloc (ae _) _).alloc (by simp) _).alloc (by simp;omega) _).alloc (by simp;omega) _).alloc (by simp;omega) _
 have aa:g.heap.size=v.heap.size+5:=by rw[c];simp
 simp only[World.size_alloc];have E:=J (FQ g (v.heap.size+1+1) s hs C Q R);have F:Hid (WI v [] g):=⟨P,⟨_,C⟩,⟨none,0,[],O,⟨rfl,.inl ⟨rfl,rfl⟩⟩,RowsIn.nil _ _⟩,p,by omega⟩
 clear c O P C Q R p
 gi_wp2_with fail
 refine MV (n:=20) (cs:=v.heap.size+1+1) (gf:=128) (lb:= #[.pointer (some ⟨v.heap.size+1+1+1,0,none⟩),.pointer (some ⟨v.heap.size+1+1,0,none⟩),.pointer (some ⟨v.heap.size+1+1+1+1,0,none⟩)]) (by omega) rfl (enters_of Tryz.func128 (by kernel_rfl) rfl) (λ_=>rfl) E.out (Bx:=λ_=>False) (λ_ _ h=>h)
  (λh k=>h.trans k) (λW l o S h hc=>nQ.put W l o S h hc) (λxs W l o S h _ _=>h) (WI v) (Sf v _ (by omega)) (Mq v) F.out
  (λx=> {tmps:= #[.string ⟨s.toArray⟩,undef,.slice none 0 0,.pointer (some ⟨v.heap.size,0,none⟩),.pointer (some ⟨v.heap.size+1,0,none⟩),.string ⟨x.1.toArray⟩,undef,.string ⟨s.toArray⟩,.func (.func 128) #[] #[.pointer (some ⟨v.heap.size+1+1+1,0,none⟩),.pointer (some ⟨v.heap.size+1+1,0,none⟩),.pointer (some ⟨v.heap.size+1+1+1+1,0,none⟩)],.string ⟨x.1.toArray⟩,undef,undef,undef,undef,undef,undef,undef,undef,undef,undef,undef,undef,undef],defers:=[]}) ?assign ?body ?done
 case assign=>
  intro l x W K j;simp only[Qx]
  gi_wp2
  exact j
 case body=>
  rintro l a x W y T;have HI:=J y;obtain⟨z,U,⟨r,t,d,G,H,A⟩,I,V⟩:=y;have k1:W.cell? ⟨v.heap.size+1,0,none⟩=some (.int .i64 a.length):=z.cell 0;have f1:=z.frozen 0;have u:Calls Tryz.prog 41 #[.string ⟨x.1.toArray⟩,.int .i64 ((a.length:Int)+1)] (W.setCell ⟨v.heap.size+1,0,none⟩ (.int .i64 ((a.length:Int)+1))) (ET (W.setCell ⟨v.heap.size+1,0,none⟩ (.int .i64 ((a.length:Int)+1))) x.1 (a.length+1)):=by
   have e:((a.length:Int)+1)=((a.length+1:Nat):Int):=by omega
   rw[e];exact qv _ x.1 (a.length+1) x.2
  have ak:=J u;clear u
  gi_wp2_with fail
  refine⟨trivial,rfl,?_⟩;refine(CallsIn.inRound l (callsIn_wide.2 ak.out)).mono ?_;rintro e X ⟨v2,rfl,b,i⟩;obtain⟨A2,c2,rfl,-⟩:=Rd.U b;by_cases m:one x.1=[]
  .have L:=J (My v W X a x HI.out m i);have M:¬0<(one x.1).length:=by simp[m]
   clear m b i
   gi_wp2_with fail
   exact L.out
  obtain⟨A3,c3,w3,N,ab,ac,ad,f⟩:=Mz v W X a x r A2 t c2 d (by omega) z U G H A I V m i b;have L:=J f;have M:0<(one x.1).length:=tz.2 m;clear m b i f
  gi_wp2_with fail
  exact L.out
 case done=>
  rintro D xs W hD Y y j;obtain⟨z,U,⟨r,t,d,G,H,A⟩,I,V⟩:=y;have k0:W.cell? ⟨v.heap.size,0,none⟩=some (.slice r d.length t):=G.cell 0;have Z:=J Y;clear Y
  gi_wp2_with fail
  refine⟨by simp,.inl ⟨_,_,rfl,run_takeDeferred j,?_⟩⟩;have hl:d.length=(iH s).length:=by rw[A.1,iH,Z.out]
  refine⟨.slice r d.length t,by simp[results,Tryz.results16,go_sem],_,rfl,r,t,d,by rw[hl],?_,?_,?_⟩
  .rw[<-hl];exact jX (ownsRow_putObj H (.deferred none) j rfl)
  .rw[iH,<-Z.out];exact A.kept λ_ _ _ hr=>hr.other (grownBy_putObj' W D _) (λq hq=>by cases hq;exact⟨_,j,rfl⟩)
  exact I.trans (belowK_b (w:=v) (ae _) W D _ _ (by omega) j rfl rfl)
end
abbrev i8 (w:World)(b p:Nat)(a:Int):Prop:=Bk w b UL #[.pointer (some ⟨p,0,none⟩),.int .i64 a]
theorem dI {c:World}{row:Option Nat}(h:a.grownBy b row)(k:b.grownBy c row):a.grownBy c row:=⟨k.os.trans h.os,k.tape.trans h.tape,k.output.trans h.output,nt h.size k.size,λi hi d=>(k.block i (mz hi h.size) d).trans (h.block i hi d)⟩
theorem O9 {c:World}{row f:Option Nat}(h:a.grownBy b row)(k:b.grownBy c f)(j:∀g,f=some g->a.heap.size<=g):a.grownBy c row:=⟨k.os.trans h.os,k.tape.trans h.tape,k.output.trans h.output,nt h.size k.size,λi hi d=>(k.block i (mz hi h.size) (λe=>by have:=j i e.symm;omega)).trans (h.block i hi d)⟩
def eC (a c:Int):Int:=if a=0 then c else a
theorem tX (b p:Nat)(a c:Int)(h:i8 v b p a):
  Calls Tryz.prog 132 #[.pointer (b,0),c] v λe f=>e=.returned (.tuple #[])/\i8 f b p (eC a c)/\v.grownBy f (some b):=by
 have i:v.cell? (b,1)=some (.int .i64 a):=h.cell 1;have j:v.frozen? (b,1)=false:=h.frozen 1;have H:=J h;clear h;by_cases d:a=0
 .subst d;go_enter Tryz.func132,Tryz.ntmps132
  go_wp2
  go_end0
  exact⟨rfl,H.set 1 _,fZ v (b,1) _⟩
 have k:(a==0)=false:=by simpa using d
 have g:Hid (eC a c=a):=by show _=_;rw[eC,if_neg d]
 clear d;go_enter Tryz.func132,Tryz.ntmps132
 go_wp2
 go_end0
 rw[g.out];exact⟨rfl,H,World.grownBy.refl _ _⟩
def wN (w:World)(b p:Nat)(a:Int)(v:Value)(e:Ending)(w':World):Prop:=e=.returned v/\i8 w' b p a/\w.grownBy w' (some b)
theorem i8.below {w w':World}{b p:Nat}{a:Int}(h:i8 w b p a)(c:Below w w w'):i8 w' b p a:=(c.block b h.lt).trans h
theorem BN {w':World}(a:Below b b w')(row:Option Nat):b.grownBy w' row:=az a row
theorem mH {c:World}{row:Option Nat}(d:Below a a b)(h:b.grownBy c row):a.grownBy c row:=dI (az d row) h
theorem eG (d p:Nat)(a:Int)(t:B)(h:i8 v d p a)(j:t.length<=800000000):
  Calls Tryz.prog 90 #[.pointer (d,0),.string t] v (wN v d p (aP a t) (.int .i64 (aI t))):=by
 have k:=J (ZH v t j);have H:=J h;clear h j;cases c:yI t with
 |true=>
  have f:Hid (aP a t=a):=by show _=_;rw[aP,c];simp
  have c:=J c;go_enter Tryz.func90,Tryz.ntmps90
  go_wp2_with (go_at_call 131;refine k.mono ?_;rintro e l ⟨rfl,b⟩;rw[c.out])
  go_ret
  rw[f.out];exact⟨rfl,H.below b,BN b _⟩
 |false=>
  have f:Hid (aP a t=eC a 21):=by show _=_;rw[aP,c,eC];simp
  have c:=J c;go_enter Tryz.func90,Tryz.ntmps90
  go_wp2_with (first
   |(go_at_call 131;refine k.mono ?_;rintro e l ⟨rfl,b⟩;rw[c.out])
   |(go_at_call 132;refine(tX l d p a 21 (H.below b)).mono ?_;rintro e m ⟨rfl,g,i⟩))
  go_ret
  rw[f.out];exact⟨rfl,g,mH b i⟩
theorem BZ (d p:Nat)(a:Int)(t:B)(h:i8 v d p a):
  Calls Tryz.prog 91 #[.pointer (d,0),.string t] v (wN v d p (bQ a t) (.string t)):=by
 have j:=J (Ed v t);have H:=J h;clear h;cases c:hZ t with
 |true=>
  have f:Hid (bQ a t=a):=by show _=_;rw[bQ,c];simp
  have c:=J c;go_enter Tryz.func91,Tryz.ntmps91
  go_wp2_with (go_at_call 42;refine j.mono ?_;rintro e k ⟨rfl,b⟩;rw[c.out])
  go_ret
  rw[f.out];exact⟨rfl,H.below b,BN b _⟩
 |false=>
  have f:Hid (bQ a t=eC a 23):=by show _=_;rw[bQ,c,eC];simp
  have c:=J c;go_enter Tryz.func91,Tryz.ntmps91
  go_wp2_with (first
   |(go_at_call 42;refine j.mono ?_;rintro e k ⟨rfl,b⟩;rw[c.out])
   |(go_at_call 132;refine(tX k d p a 23 (H.below b)).mono ?_;rintro e l ⟨rfl,g,i⟩))
  go_ret
  rw[f.out];exact⟨rfl,g,mH b i⟩
structure qT (w:World)(p gm:Nat)(gl:Gl):Prop where
 cell:w.cell? (p,10)=some (.map (some gm))
 map:j9 oJ w gm (λt=>(gl.lookup t).map λn=> .int .i64 (n:Nat))
theorem j9.BQ {E:sa α}{f: α ->Option Value}{P:Program}{a:TypeId}(h:j9 E b g f)(e:P.underlying T=some (.map K a))(w:P.underlying K=some E.d)(i:(zeroValue a).run P b=.ok z b)(k: α){v:Value}{c:Bool}(j:(f k).getD z=v)(l:(f k).isSome=c):
  (Instr.lookup T (.map (some g)) (E.pd k) true).run P b=.ok (.tuple #[v,.bool c]) b:=by
 rw[h.ss e w i k,j,l]
theorem OI:(zeroValue 3).run Tryz.prog v=.ok (.int .i64 0) v:=by kernel_rfl
theorem Dn (c p g:Nat)(r:Gl)(a:Int)(t:B)(h:i8 v c p a)(d:qT v p g r):
  Calls Tryz.prog 100 #[.pointer (c,0),.string t] v (wN v c p (kV r a t) (.int .i64 (gX r t))):=by
 have o:v.cell? (c,0)=some (.pointer (p,0)):=h.cell 0;have m:=d.cell;have H:=J h;cases b:r.lookup t with
 |some n=>
  have i:∀f,f=v->(Instr.lookup 89 (.map (some g)) (.string t) true).run Tryz.prog f=.ok (.tuple #[.int .i64 (gX r t),.bool true]) f:=λf e=>by
   subst e;exact d.map.BQ Tryz.underlying89 Tryz.underlying9 (OI _) t (by rw[b,gX,b];rfl) (by rw[b];rfl)
  have j:Hid (kV r a t=a):=by show _=_;rw[kV,b];simp
  clear h d b;go_enter Tryz.func100,Tryz.ntmps100
  go_wp2;go_ret
  rw[j.out];exact⟨rfl,H,World.grownBy.refl _ _⟩
 |none=>
  have i:(Instr.lookup 89 (.map (some g)) (.string t) true).run Tryz.prog v=.ok (.tuple #[.int .i64 (gX r t),.bool false]) v:=d.map.BQ Tryz.underlying89 Tryz.underlying9 (OI _) t (by rw[b,gX,b];rfl) (by rw[b];rfl);have j:Hid (kV r a t=eC a 23):=by show _=_;rw[kV,b,eC];simp
  clear h d b;go_enter Tryz.func100,Tryz.ntmps100
  go_wp2_with (go_at_call 132;refine(tX _ c p a 23 H).mono ?_;rintro e q ⟨rfl,k,l⟩)
  go_ret
  rw[j.out];exact⟨rfl,k,l⟩
theorem iE (p:Nat):Calls Tryz.prog 89 #[.pointer (p,0)] v λe a=>e=.returned (.pointer (v,0))/\i8 a v.heap.size p 0/\Below v v a:=by
 go_enter Tryz.func89,Tryz.ntmps89
 go_wp2;go_ret
 exact⟨rfl,Bk.new _ _ _,(gD _ _).alloc (ae _) _⟩
section
open Go.Sort
def nG:Nat:=11+1
structure iN (w:World):Prop where
 ops:nF w 0 (strs opNames)
 M:nF w 3 (strs anchorNames)
 kinds:nF w 4 (strs aH)
 pow:nF w 9 (Lib.pow10Tab.map λz=>Value.int .u64 z)
theorem iN.below {w w':World}{c:Nat}(h:iN w)(a:Below c w w')(b:nG<=c):iN w':=by unfold nG at b;exact⟨h.ops.below a (by omega),h.M.below a (by omega),h.kinds.below a (by omega),h.pow.below a (by omega)⟩
theorem iN.all {w':World}(h:iN b)(a:Below b b w'):iN w':=⟨h.ops.below a h.ops.lt,h.M.below a h.M.lt,h.kinds.below a h.kinds.lt,h.pow.below a h.pow.lt⟩
theorem iN.tab (h:iN b):Lib.TabIs Tryz.prog b "internal/strconv.uint64pow10" .u64 Lib.pow10Tab:=by
 obtain⟨t,w,h⟩:=h.pow
 have a:Tryz.prog.globalNamed "internal/strconv.uint64pow10" =some 9:=by kernel_rfl
 simp[Lib.TabIs,World.var?,a,h]
theorem YM (k:Nat):∀u,u<10 ^ (k+1)->Lib.nDigits u<=k+1:=by
 induction k with
 |zero=>intro u a;rw[Lib.nDigits_small (by simpa using a)];exact ae _
 |succ k b=>
  intro u a;by_cases h:u<10
  .rw[Lib.nDigits_small h];omega
  rw[Lib.nDigits_big h];have:=b (u / 10) (by rw[Nat.pow_succ]at a;omega);omega
theorem wK {n:Int}(h:gN n):(ag n).length<=21:=by
 unfold gN at h;have a:∀u:Nat,u<=9223372036854775808->(Lib.decDigits u).length<=20:=λu b=>by
  rw[Lib.decDigits_length];exact YM 19 u (Nat.lt_of_le_of_lt b (by decide))
 unfold ag Lib.itoa;split
 .have:=a n.natAbs (by omega);simp;omega
 have:=a n.toNat (by omega);omega
theorem pu (k:Nat)(c:Array Obj):Below v v (grow (v.drewN k) c):=
 ⟨rfl,rfl,rfl,by simp[grow],λb a=>by
  have:(grow (v.drewN k) c).heap=v.heap++c:=rfl;rw[this,Array.getElem?_append_left a]⟩
theorem bi (n:Int)(c:iN v)(a:gN n):Calls Tryz.prog 20 #[n] v λe b=>e=.returned (.string (ag n))/\Below v v b:=by
 have d:=J (Tryz.strconv_Itoa n a.1 a.2 v c.tab);clear a;go_enter Tryz.func20,Tryz.ntmps20
 go_wp2_with fail
 refine d.mono ?_;rintro e b ⟨rfl,k,f,rfl⟩;go_wp2;go_ret
 exact⟨rfl,pu v k f⟩
theorem Oe (l:List B)(n:Int)(h:n<1):pick l n=[63]:=by rw[pick,if_pos h]
theorem Ob (l:List B)(n:Int)(h:(l.length:Int)<n):pick l n=[63]:=by
 rw[pick];split
 .rfl
 rw[qn (by omega)];rfl
theorem Oc (l:List B)(n:Int)(a:1<=n)(b:n<=l.length):∃s,l[(n - 1).toNat]?=some s/\pick l n=s:=by
 rw[pick,if_neg (by omega)];have h:(n - 1).toNat<l.length:=by omega
 exact⟨l[(n - 1).toNat],jO h,by rw[jO h];rfl⟩
theorem Qz (n:Int)(d:iN v):Calls Tryz.prog 15 #[n] v λe f=>e=.returned (.string (nK n))/\v=f:=by
 by_cases g:n<1
 .have a:=J (Oe opNames n g);go_enter Tryz.func15,Tryz.ntmps15
  go_wp2;go_ret
  exact⟨by rw[nK,a.out];rfl,rfl⟩
 by_cases h:39<n
 .have a:=J (Ob opNames n (by show((39:Nat):Int)<n;omega));go_enter Tryz.func15,Tryz.ntmps15
  go_wp2;go_ret
  exact⟨by rw[nK,a.out];rfl,rfl⟩
 obtain⟨s,c,b⟩:=Oc opNames n (by omega) (by simp only[opNames,aV,ln];omega);have a:=J b;clear b;have i:v.cell? (0,n.toNat - 1)=some (.string s):=by rw[show n.toNat - 1=(n - 1).toNat by omega,d.ops.cell];exact lO c
 clear c;go_enter Tryz.func15,Tryz.ntmps15
 go_wp2;go_ret
 exact⟨by rw[nK,a.out];rfl,rfl⟩
theorem Qb (n:Int)(d:iN v):Calls Tryz.prog 66 #[n] v λe f=>e=.returned (.string (pick anchorNames n))/\v=f:=by
 by_cases g:n<1
 .have a:=J (Oe anchorNames n g);go_enter Tryz.func66,Tryz.ntmps66
  go_wp2;go_ret
  exact⟨by rw[a.out];rfl,rfl⟩
 by_cases h:4<n
 .have a:=J (Ob anchorNames n (by show((4:Nat):Int)<n;omega));go_enter Tryz.func66,Tryz.ntmps66
  go_wp2;go_ret
  exact⟨by rw[a.out];rfl,rfl⟩
 obtain⟨s,c,b⟩:=Oc anchorNames n (by omega) (by simp only[anchorNames,aV,ln];omega);have a:=J b;clear b;have i:v.cell? (3,n.toNat - 1)=some (.string s):=by rw[show n.toNat - 1=(n - 1).toNat by omega,d.M.cell];exact lO c
 clear c;go_enter Tryz.func66,Tryz.ntmps66
 go_wp2;go_ret
 exact⟨by rw[a.out];rfl,rfl⟩
theorem EG (n:Int)(d:iN v):Calls Tryz.prog 67 #[n] v λe f=>e=.returned (.string (pick aH n))/\v=f:=by
 by_cases g:n<1
 .have a:=J (Oe aH n g);go_enter Tryz.func67,Tryz.ntmps67
  go_wp2;go_ret
  exact⟨by rw[a.out];rfl,rfl⟩
 by_cases h:8<n
 .have a:=J (Ob aH n (by show((8:Nat):Int)<n;omega));go_enter Tryz.func67,Tryz.ntmps67
  go_wp2;go_ret
  exact⟨by rw[a.out];rfl,rfl⟩
 obtain⟨s,c,b⟩:=Oc aH n (by omega) (by simp only[aH,aV,ln];omega);have a:=J b;clear b;have i:v.cell? (4,n.toNat - 1)=some (.string s):=by rw[show n.toNat - 1=(n - 1).toNat by omega,d.kinds.cell];exact lO c
 clear c;go_enter Tryz.func67,Tryz.ntmps67
 go_wp2;go_ret
 exact⟨by rw[a.out];rfl,rfl⟩
theorem YL (c:List B)(k:Nat)(s:B)(h:c[k]?=some s):gy (c.take (k+1))=gy (c.take k)++32::s:=by obtain⟨a,b⟩:=ll.1 h;rw[re a,b];simp[gy]
theorem TE (a:List B)(k:Nat):(gy (a.take k)).length<=(gy a).length:=by
 conv=>rhs;rw[<-rA k a]
 simp only[gy,rj,la];omega
theorem Ie (S g:Nat)(f:Nat->Value)(a first:B)(A:Option Addr)(c:Nat)(R:List B)(h:Pr v S g f a)(G:Sl rt 1 v (FT v) A R)(d:a.length+(aJ first R).length<=1000000000000)(H:R.length<=1000000000000):
  Calls Tryz.prog 19 #[.pointer (g,0),.string first,A R.length c] v λe t=>e=.returned (.tuple #[])/\Pr t S g f (a++aJ first R)/\KP v t/\Below S v t:=by
 have I:a.length+first.length+(gy R).length+1<=1000000000000:=by simp only[aJ,la,aV,ln]at d;omega
 clear d;go_enter Tryz.func19,Tryz.ntmps19
 go_wp2_with (go_at_call 61;refine(CQ _ S g f a first h (by omega)).mono ?_;rintro e L ⟨rfl,u,w,x⟩)
 go_loopw [15] (λi wr=>∃k:Nat,k<=R.length/\i=.int .i64 k/\Pr wr S g f (a++first++gy (R.take k))/\KP v wr/\Below S v wr) (λi _=>R.length - (intOf i).toNat)
 case atStart=>exact⟨0,nz _,rfl,by simpa [gy]using u,w,x⟩
 case round=>
  obtain⟨k,M,rfl,E,j,q⟩:=hrel;have N:=TE R k;by_cases y:k<R.length
  .obtain⟨b,o,s,rfl,-,F,O⟩:=(j.sl rt.ok G).str y
   have l:=YL R k s F;have r:=TE R (k+1);rw[l]at r;simp only[la,aV]at r;have Q:=J l;clear l F;go_wp2_with (first
    |(go_at_call 62;refine(GZ _ S g f _ 32 E (by simp only[la];omega)).mono ?_;rintro e K ⟨rfl,m,n,p⟩)
    |(go_at_call 61;refine(CQ _ S g f _ s m (by simp only[la,aV,ln];omega)).mono ?_;rintro e P ⟨rfl,z,C,D⟩))
   go_roundw
   case rel=>exact⟨k+1,by omega,by simp,by rw[Q.out];simpa using z,(j.trans n).trans C,(q.trans p).trans D⟩
   case measure=>simp[intOf];omega
  obtain rfl:k=R.length:=by omega
  go_wp2_with (go_at_call 62;refine(GZ _ S g f _ 10 E (by simp only[la];omega)).mono ?_;rintro e K ⟨rfl,m,n,p⟩)
  go_end0
  refine⟨rfl,?_,j.trans n,q.trans p⟩;simpa [aJ]using m
end
structure nu (gl:Gl)(gs:List hU):Prop where
 iB:∀(i:Nat) (g:hU),gs[i]?=some g->gl.lookup g.gn=some i
 names:∀g∈gs,hZ g.gn=true
theorem Dp (h:nu i l){n:Int}(b:In l.length n):i.lookup (dK l n)=some n.toNat/\hZ (dK l n)=true:=by
 obtain⟨d,f⟩:=b;have a:n.toNat<l.length:=by omega
 have e:l[n.toNat]?=some l[n.toNat]:=jO a;have c:dK l n=l[n.toNat].gn:=by unfold dK;rw[if_neg (by omega),e]
 rw[c];exact⟨h.iB _ _ e,h.names _ (List.getElem_mem a)⟩
theorem EZ (h:nu i l){n:Int}(a:In l.length n)(e:Int):kV i e (dK l n)=e/\gX i (dK l n)=n:=by obtain⟨b,-⟩:=Dp h a;obtain⟨c,d⟩:=a;rw[kV,gX,b];refine⟨by simp,?_⟩;simp;omega
theorem Lf {k:Gl}(h:nu k l)(j:List Int)(a:∀n∈j,In l.length n)(e:Int):wC k e (j.map (dK l))=e/\(j.map (dK l)).map (gX k)=j:=by
 induction j generalizing e with
 |nil=>exact⟨rfl,rfl⟩
 |cons n r b=>
  obtain⟨c,d⟩:=EZ h (a n (by simp)) e;obtain⟨f,g⟩:=b (λm i=>a m (by simp[i])) e;refine⟨?_,?_⟩
  .have:wC k e ((n::r).map (dK l))=wC k (kV k e (dK l n)) (r.map (dK l)):=rfl;rw[this,c,f]
  rw[lP,lP,d,g]
theorem VB {d:Gl}{a:List (B×List Int)}{s:B}{n:Nat}(b:hZ s=true)(c:d.lookup s=some n):pR d a s=.ok [(n:Int)]:=by
 unfold pR;split
 .exact absurd rfl ((yv b 64 (by simp)).2.2.2.2.1)
 rw[c]
theorem VA (h:nu i l)(b:List (B×List Int))(s:List Int)(c:∀n∈s,In l.length n)(a:List Int)(d:a.length+s.length<=1000):qH i b a (s.map (dK l))=.ok (a++s):=by
 induction s generalizing a with
 |nil=>simp[qH]
 |cons n r f=>
  obtain⟨g,o⟩:=Dp h (c n (by simp));have k:=(c n (by simp)).1;rw[lP,qH,VB o g];have e:((n.toNat:Nat):Int)=n:=by omega
  simp only[e];rw[if_neg (by simp only[la,aV,ln]at d ⊢;omega),f (λm j=>c m (by simp[j])) _ (by simp only[la,aV,ln]at d ⊢;omega)];simp
theorem zQ (h:nu i l)(a:List (B×List Int))(g:List (List Int))(b:∀s∈g,(∀n∈s,In l.length n)/\s.length<=1000):mX i a (g.map (λs=>s.map (dK l)))=.ok g:=by
 induction g with
 |nil=>rfl
 |cons s r c=>obtain⟨d,e⟩:=b s (by simp);rw[lP,mX,VA h a s d [] (by simpa using e),c (λx f=>b x (by simp[f]))];simp
theorem ID (a:List B)(c:∀w∈a,w≠[91]/\w≠[93])(row:List B)(b:List (List B))(rest:List B):fP true row b (a++[93]::rest)=fP false [] (b++[row++a]) rest:=by
 induction a generalizing row with
 |nil=>simp[fP]
 |cons w r d=>obtain⟨e,f⟩:=c w (by simp);rw[nw,fP,if_neg e,if_neg f,if_pos rfl,d (λx g=>c x (by simp[g]))];simp
theorem NV (h:hZ n=true):n≠[91]/\n≠[93]/\n≠[47]/\n≠[62]:=by refine⟨?_,?_,?_,?_⟩<;>(rintro rfl;revert h;decide)
theorem FSx {k:List hU}(h:nu i k)(s:List Int)(g:∀n∈s,In k.length n)(a:List (List B))(rest:List B):fP false [] a (lz k s++rest)=fP false [] (a++[s.map (dK k)]) rest:=by
 have c:∀n∈s,dK k n≠[91]/\dK k n≠[93]:=λn b=>by
  have:=NV (Dp h (g n b)).2;exact⟨this.1,this.2.1⟩
 by_cases d:s.length=1
 .match s,d with
  |[n],_=>obtain⟨l,j⟩:=c n (by simp);show fP false [] a (dK k n::rest)=_;rw[fP,if_neg l,if_neg j];simp
 have e:lz k s=[91]::s.map (dK k)++[[93]]:=by
  unfold lz;split
  .simp at d
  rfl
 rw[e];simp only[nw,mL,pG];rw[fP,if_pos rfl];simp only[Bool.false_eq_true,if_false];rw[ID _ (λw f=>by
  rw[mN]at f;obtain⟨n,b,rfl⟩:=f;exact c n b)]
 simp
theorem IF (h:nu i l)(g:List (List Int))(c:∀s∈g,∀n∈s,In l.length n):fK (di l g)=some (g.map (λs=>s.map (dK l))):=by
 suffices b:∀a,fP false [] a (di l g)=some (a++g.map (λs=>s.map (dK l))) by simpa [fK]using b []
 induction g with
 |nil=>intro a;simp[di,fP]
 |cons s r d=>
  intro a;have e:di l (s::r)=lz l s++di l r:=by simp[di]
  rw[e,FSx h s (c s (by simp)),d (λx f=>c x (by simp[f]))];simp
theorem DT {k:Gl}(h:nu k l)(j:List (List Int))(g:∀s∈j,∀n∈s,In l.length n):∀w∈di l j,w≠[47]/\w≠[62]/\dA w=true:=by
 intro w a;simp only[di,rz]at a;obtain⟨s,i,a⟩:=a;have b:∀n∈s,dK l n≠[47]/\dK l n≠[62]/\dA (dK l n)=true:=λn b=>by
  have f:=(Dp h (g s i n b)).2;have:=NV f;exact⟨this.2.2.1,this.2.2.2,sW f⟩
 have c:w∈[91]::s.map (dK l)++[[93]]\/w∈s.map (dK l):=by
  unfold lz at a;split at a
  .exact .inr (by simpa using a)
  exact .inl a
 have:w=[91]\/w=[93]\/∃n∈s,dK l n=w:=by
  rcases c with hk|hk
  .simp only[nw,lx,jp,mN,qp,or_false]at hk;rcases hk with hk|⟨n,b,e⟩|hk
   .exact .inl hk
   .exact .inr (.inr ⟨n,b,e⟩)
   exact .inr (.inl hk)
  rw[mN]at hk;exact .inr (.inr hk)
 rcases this with rfl|rfl|⟨n,d,rfl⟩
 .decide
 .decide
 exact b n d
theorem AZ (f:List B)(c:∀w∈f,w≠[47]/\w≠[62])(n:Nat)(b:List B)(a:List (List B))(rest:List B):jA n b a (f++rest)=jA n (b++f) a rest:=by
 induction f generalizing b with
 |nil=>simp
 |cons w r d=>rw[nw,jA,if_pos (c w (by simp)),d (λx e=>c x (by simp[e]))];simp
theorem I3 (a b c d:List B)(f:∀w∈a,w≠[47]/\w≠[62])(g:∀w∈b,w≠[47]/\w≠[62])(h:∀w∈c,w≠[47]/\w≠[62])(i:∀w∈d,w≠[47]/\w≠[62]):
  rU (a++[47]::b++[47]::c++[62]::d)=some [a,b,c,d]:=by
 have e:a++[47]::b++[47]::c++[62]::d=a++([47]::(b++([47]::(c++([62]::(d++[])))))):=by simp
 rw[e,rU,AZ a f,jA,if_neg (by simp),if_pos (by simp),AZ b g,jA,if_neg (by simp),if_pos (by simp),AZ c h,jA,if_neg (by simp),if_pos (by simp),AZ d i,jA];simp
theorem YE (n:Int)(s:List Int)(h:∀x∈s,n<x):rH n s=n::s:=by
 cases s with
 |nil=>rfl
 |cons x r=>rw[rH,if_pos (h x (by simp))]
theorem UB (s:List Int)(h:s.Pairwise (· < ·)):setOf s=s:=by
 induction s with
 |nil=>rfl
 |cons n r a=>obtain⟨b,c⟩:=List.pairwise_cons.1 h;have e:setOf (n::r)=rH n (setOf r):=rfl;rw[e,a c,YE n r b]
theorem WX {n:Nat}{s:List Int}(h:pf n s):s.length<=n:=by
 obtain⟨e,f⟩:=h
 suffices b:∀(s:List Int) (a:Int),s.Pairwise (· < ·)->(∀x∈s,a<=x/\x<n)->(s.length:Int)<=max 0 (n - a) by have:=b s 0 e (λx g=>f x g);omega
 intro s;induction s with
 |nil=>intro a _ _;simp;omega
 |cons x r i=>intro a j c;obtain⟨k,l⟩:=List.pairwise_cons.1 j;have m:=c x (by simp);have:=i (x+1) l (λy d=>⟨by have:=k y d;omega,(c y (by simp[d])).2⟩);simp only[aV];omega
theorem Jj {s:List Int}(h:s.Pairwise (· < ·)):s.Nodup:=h.imp (λa e=>by omega)
theorem Pd (s a:List Int)(b:s.Nodup)(c:a.length=s.length):s.map (λg=>a.getD (s.idxOf g) 0)=a:=by
 apply List.ext_getElem (by simp[c]);intro i d e;rw[List.getElem_map];have f:i<s.length:=by simpa using d
 rw[List.Nodup.idxOf_getElem b i f];simp[List.getD,e]
theorem Gn (s a:List Int)(b:s.Pairwise (· < ·))(c:a.length=s.length):gz s a=.ok a:=by rw[gz,if_neg (by simpa using Jj b),if_neg (by simpa using c),UB s b,Pd s a (Jj b) c]
theorem Px (c:Call)(h:N9 c.iB/\N9 c.lookup)(e:Int):oI e (ag c.iB++58::ag c.lookup)=e/\mZ (ag c.iB++58::ag c.lookup)=c/\(ag c.iB++58::ag c.lookup).count 58=1/\dA (ag c.iB++58::ag c.lookup)=true:=by
 obtain⟨a,f⟩:=h;have g:∀d∈ag c.iB,d≠58:=λd hd=>(jy (sV _ d hd)).2.1
 have j:∀d∈ag c.lookup,d≠58:=λd hd=>(jy (sV _ d hd)).2.1
 obtain⟨i,c2⟩:=Rw (b:=ag c.lookup) g;refine⟨?_,?_,?_,?_⟩
 .rw[oI,i,c2,iQ _ a,iQ _ f]
 .rw[mZ,i,c2,(fJ _ a).2,(fJ _ f).2]
 .rw[List.count_append,List.count_cons,kh g,kh j];simp
 simp only[dA,np,Bool.not_eq_true',List.isEmpty_eq_false_iff,pZ,jp,lx];refine⟨by simp,λd hd=> ?_⟩;rcases hd with hd|rfl|hd
 .exact(jy (sV _ d hd)).1
 .decide
 exact(jy (sV _ d hd)).1
theorem Zh (l:List Call)(h:∀c∈l,N9 c.iB/\N9 c.lookup)(e:Int):(l.map (λc=>ag c.iB++58::ag c.lookup)).foldl oI e=e/\(l.map (λc=>ag c.iB++58::ag c.lookup)).map mZ=l/\
  BK (l.map (λc=>ag c.iB++58::ag c.lookup))=true/\∀w∈l.map (λc=>ag c.iB++58::ag c.lookup),dA w=true:=by
 induction l generalizing e with
 |nil=>exact⟨rfl,rfl,rfl,by simp⟩
 |cons c r b=>
  obtain⟨f,g,i,j⟩:=Px c (h c (by simp)) e;obtain⟨k,m,a,n⟩:=b (λd o=>h d (by simp[o])) e;refine⟨?_,?_,?_,?_⟩
  .rw[lP,o0,f,k]
  .rw[lP,lP,g,m]
  .unfold BK at a ⊢;rw[lP,List.all_cons,a,i];rfl
  intro w hw;rw[lP,lx]at hw;rcases hw with rfl|hw
  .exact j
  exact n w hw
def ai (n:Int):B:=ag n++[32]
def zX (b:Bool):B:=if b then [49,32]else [48,32]
def ju (l:List Int):B:=ai l.length++l.flatMap ai
def mW (l:List (List Int)):B:=ai l.length++l.flatMap ju
def sU (i:Ins):B:=ai i.op++ai i.a
def gJ (l:List Ins):B:=ai l.length++l.flatMap sU
def vC (s:B):B:=ai s.length++(s++[32])
def ug (p:Pt):B:=ai p.x++(ai p.y++zX p.on)
def xf (l:List Pt):B:=ai l.length++l.flatMap ug
def jY (p:Part):B:=ai p.z++(ai p.x++ai p.y)
def TZ (l:List Part):B:=ai l.length++l.flatMap jY
def jS (a:ml):B:=ai a.gd++(ai a.ia++(ai a.x++ai a.y))
def Q5 (l:List ml):B:=ai l.length++l.flatMap jS
def nS (d:Delta):B:=ai d.region++(ai d.ii++(ai d.x++ai d.y))
def XX (l:List Delta):B:=ai l.length++l.flatMap nS
def fH (g:hU):B:=vC g.gn++(ai g.gL++(zX g.i6++(xf g.gk++(ju g.gO++(TZ g.gi++(Q5 g.gh++(XX g.gx++gJ g.gR)))))))
def NC (l:List hU):B:=ai l.length++l.flatMap fH
def nR (c:nD):B:=ai c.jN++ai c.z
def XR (l:List nD):B:=ai l.length++l.flatMap nR
def jU (c:Call):B:=ai c.iB++ai c.lookup
def Lu (l:List Call):B:=ai l.length++l.flatMap jU
def jJ (r:k'):B:=mW r.gE++(mW r.ij++(mW r.ahead++(ju r.out++(Lu r.gw++ai r.x))))
def Ux (l:List k'):B:=ai l.length++l.flatMap jJ
def iY (l:gH):B:=ai l.gd++(zX l.nj++Ux l.gC)
def Tu (l:List gH):B:=ai l.length++l.flatMap iY
def jV (x:mS):B:=vC x.gn++ju x.ge
def RJ (l:List mS):B:=ai l.length++l.flatMap jV
def jT (a:mT):B:=vC a.gn++(ai a.km++(ai a.kA++ai a.kv))
def XO (l:List mT):B:=ai l.length++l.flatMap jT
def lJ (t:mC):B:=ai t.start++(ai t.jx++ai t.jz)
def Gw (l:List mC):B:=ai l.length++l.flatMap lJ
def oh (r:Region):B:=Gw r.kB
def Ze (l:List Region):B:=ai l.length++l.flatMap oh
def RZ (l:List (List Ins)):B:=ai l.length++l.flatMap gJ
def nZ (f:iu):B:=ai f.gt++(NC f.ga++(XR f.f6++(Tu f.ge++(RJ f.a'++(XO f.gM++(Ze f.d'++(RZ f.fY++ju f.gP)))))))
def PF {α:Type}(c:α->B):Prop:=∀x y r s,c x++r=c y++s->x=y/\r=s
theorem TH (b:UInt8):(convert 104 9 (.slice (some ⟨v.heap.size,0,none⟩) 1 1)).run Tryz.prog (v.alloc (.cells #[.int .u8 b.toNat] 5))=.ok (.string ⟨#[b]⟩) (v.alloc (.cells #[.int .u8 b.toNat] 5)):=
 run_convert_bytes_back (v.alloc (.cells #[.int .u8 b.toNat] 5)) 104 9 5 ⟨v.heap.size,0,none⟩ 1 [b] Tryz.underlying104 Tryz.underlying5 Tryz.underlying9 (λj a=>by
  obtain rfl:j=0:=by simpa using a
  rw[jt];exact(Bk.new v 5 #[.int .u8 b.toNat]).cell 0)
theorem vW (a b:B):(ByteArray.mk a.toArray)++⟨b.toArray⟩=⟨(a++b).toArray⟩:=by apply ByteArray.ext;rw[ByteArray.data_append];apply Array.ext';simp
def qB (n:Nat):UInt8:=UInt8.ofNat (48+n % 10)
theorem Mg (n:Nat):(qB n).toNat=48+n % 10:=by rw[qB,UInt8.toNat_ofNat'];omega
def lT (u:Nat):B:=if _h:u<10 then [qB u]else lT (u / 10)++[qB u]
termination_by u
decreasing_by omega
theorem Qw (n:Int)(u:Nat)(h:n=48+(u:Int) % 10):(convert 104 9 (.slice (some ⟨v.heap.size,0,none⟩) 1 1)).run Tryz.prog (v.alloc (.cells #[.int .u8 n] 5))=.ok (.string ⟨#[qB u]⟩) (v.alloc (.cells #[.int .u8 n] 5)):=by
 have:=TH v (qB u);rw[Mg]at this;rw[h];have e:(48+(u:Int) % 10)=((48+u % 10:Nat):Int):=by omega
 rw[e];exact this
def sO (q:Nat):B:=if q=0 then []else lT q
theorem Ge (q:Nat)(h:0<q):sO q=sO (q / 10)++[qB q]:=by
 rw[sO,if_neg (by omega),lT];split
 .rw[sO,if_pos (by omega)];rfl
 rw[sO,if_neg (by omega)]
theorem XW (U:Nat):lT U=sO (U / 10)++[qB U]:=by
 rw[lT];split
 .rw[sO,if_pos (by omega)];rfl
 rw[sO,if_neg (by omega)]
theorem Gd (k:Nat):∀u,u<10 ^ (k+1)->(lT u).length<=k+1:=by
 induction k with
 |zero=>intro u a;rw[lT,dif_pos (by simpa using a)];simp
 |succ k b=>
  intro u a;rw[lT];split
  .simp
  have:=b (u / 10) (by rw[Ue]at a;omega);rw[la];simp;omega
theorem Ry (u:Nat):lT u=Lib.decDigits u:=by
 induction u using Nat.strongRecOn with
 |_ u a=>
  rw[lT,Lib.decDigits];split
  .rename_i h;rw[qB,Nat.mod_eq_of_lt h]
  rw[a (u / 10) (by omega)];rfl
abbrev pU:TypeId:=118
abbrev aK:TypeId:=3
def uR (A:Option Addr)(n c a:Nat)(b:Nat->Value)(d:Int):Array Value:= #[A n c,a,b 0,b 1,b 2,b 3,b 4,b 5,b 6,b 7,b 8,d]
def Mk (w:World)(m:Nat)(d:Nat->Value)(e:Int):Prop:=∃A n c a b,Bk w m pU (uR A n c a d e)/\a<=n/\n<=1000000000/\Rd w m A n 1 (aC b)/\∀z∈b,gN z
abbrev Mv (m:Nat)(w w':World):Prop:=w.grownBy w' (some m)
theorem Yi (h:a.grownBy b (some g))(c:f<=g)(d:f<=a):Below f a b:=⟨h.os,h.tape,h.output,h.size,λi hi=>h.block i (by omega) (λe=>by injection e with e;omega)⟩
theorem Mk.lt (h:Mk b g q o):g<b.heap.size:=by obtain⟨A,n,c,a,d,m,-⟩:=h;exact m.lt
theorem Mk.cells (h:Mk b g q o):(∀i,i<9->b.cell? ⟨g,i+2,none⟩=some (q i))/\b.cell? (g,11)=some (.int .i64 o):=by
 obtain⟨A,n,c,a,d,m,-⟩:=h;refine⟨λi hi=> ?_,m.cell 11⟩;rw[m.cell (i+2)];have:i=0\/i=1\/i=2\/i=3\/i=4\/i=5\/i=6\/i=7\/i=8:=by omega
 rcases this with rfl|rfl|rfl|rfl|rfl|rfl|rfl|rfl|rfl<;>rfl
theorem Mk.frozen (h:Mk b g q o)(i:Nat):b.frozen? (g,i)=false:=by obtain⟨A,n,c,a,d,m,-⟩:=h;exact m.frozen i
theorem Mk.grown {w':World}(h:Mk b g q o){row:Option Nat}(w:b.grownBy w' row)(d:∀m,row=some m->g<m):Mk w' g q o:=by have f:=h.lt;obtain⟨A,n,c,a,i,j,k,l,r,p⟩:=h;exact⟨A,n,c,a,i,(w.block g f (λe=>by have:=d g e.symm;omega)).trans j,k,l,r.grown w (by omega) (λm e=>by have:=d m e;omega),p⟩
theorem Mk.below {w w':World}{b:Nat->Value}{c:Int}(h:Mk w g b c)(a:Below w w w'):Mk w' g b c:=h.grown (row:=none) (az a none) (λm e=>by cases e)
theorem Mk.set {w:World}{m:Nat}{fs':Nat->Value}{lp':Int}(h:Mk w m q o)(j:Nat)(u:Value)(b:∀A n c a,(uR A n c a q o).setIfInBounds j u=uR A n c a fs' lp'):Mk (w.setCell (m,j) u) m fs' lp':=by obtain⟨A,n,c,a,d,e,f,g,i,k⟩:=h;exact⟨A,n,c,a,d,by have:=e.set j u;rwa [b]at this,f,g,i.setCell (by simp) u,k⟩
theorem De {w':World}{n:Nat}(h:b.ownsRow d T f z n j)(a:b.grownBy w' (some g))(c:g<d):w'.ownsRow d T f z n j:=
 h.kept (row:=some g) a (by
  cases v:z.ownBlock with
  |none=>exact .inl rfl
  |some e=>exact .inr (λT=>by injection T with T;have:=(h.lt e v).1;omega))
theorem yQ (f:Nat)(e:TypeId)(g n:Nat)(a:Array Value)(c:f<=v)(b:a.size=n*g)(d:n<=1000000):(v.alloc (.cells a e)).ownsRow f e g (.slice (v,0) n n) n a.toList:=⟨by simpa using b,.inr ⟨v.heap.size,n,a,rfl,c,heap_alloc_new v _,ae _,by unfold maxLen;omega,b,by rw[oY];simpa using Nat.le_of_eq b⟩⟩
def NI (c:Nat)(w:World):Bs:=λb=>c<=b/\∃a,Bk w b aK a
def Nw (c:Nat)(w:World):Bs:=λb=>c<=b/\∃a t,Bk w b t a/\nM t=true
theorem NI.base (c:g<=d):∀a,NI d b a->NI g b a:=λa ⟨h,k⟩=>⟨by omega,k⟩
theorem Nw.base (c:g<=d):∀a,Nw d b a->Nw g b a:=λa ⟨h,k⟩=>⟨by omega,k⟩
theorem NI.xT {w':World}{row:Option Nat}(d:b.grownBy w' row)(f:∀j,row=some j->j<g):Same (NI g b) b w'/\∀w,NI g b w->NI g w' w:=by
 have a:∀w,NI g b w->w'.heap[w]?=b.heap[w]? :=λw ⟨h,c,k⟩=>d.block w k.lt (λe=>by have:=f w e.symm;omega)
 exact⟨a,λw i=>by obtain⟨h,c,k⟩:=i;exact⟨h,c,(a w ⟨h,c,k⟩).trans k⟩⟩
theorem Nw.xT {w':World}{row:Option Nat}(f:b.grownBy w' row)(i:∀l,row=some l->l<g):Same (Nw g b) b w'/\∀w,Nw g b w->Nw g w' w:=by
 have a:∀w,Nw g b w->w'.heap[w]?=b.heap[w]? :=λw ⟨h,c,t,k,_⟩=>f.block w k.lt (λe=>by have:=i w e.symm;omega)
 exact⟨a,λw j=>by obtain⟨h,c,t,k,d⟩:=j;exact⟨h,c,t,(a w ⟨h,c,t,k,d⟩).trans k,d⟩⟩
theorem NI.row {w':World}{n:Nat}{p:List Value}(o:b.ownsRow f T d z n p)(he:T≠aK)(i:b.grownBy w' z.ownBlock):Same (NI g b) b w'/\∀w,NI g b w->NI g w' w:=by
 have a:∀w,NI g b w->w'.heap[w]?=b.heap[w]? :=λw ⟨h,c,k⟩=>i.block w k.lt (λj=>by
  obtain⟨l,v⟩:=iI o w j.symm;exact he (dw v k).1)
 exact⟨a,λw v=>by obtain⟨h,c,k⟩:=v;exact⟨h,c,(a w ⟨h,c,k⟩).trans k⟩⟩
theorem Sl.C {R:Rel α}(a:R.Ok){w':World}{c:Bs}{e:List α}(h:Sl R d b S A e)(k:Same S b w'/\∀w,S w->c w):Sl R d w' c A e:=(h.keep a k.1).mono a k.2
theorem Fl.C {R:Rel α}(a:R.Ok){w':World}{c:Bs}{f:List α}(h:Fl R d b S j f)(k:Same S b w'/\∀w,S w->c w):Fl R d w' c j f:=(h.keep a k.1).mono a k.2
theorem Sl.Ch {R:Rel α}{k:Nat}{l:List α}(h:Sl R k b S A l)(c:∀w,S w->w<b):∃j,Fl R k b S j l/\Rd b b.heap.size A l.length k j:=by obtain⟨j,a,d⟩:=h;refine⟨j,a,a.1,λf=> ?_⟩;obtain⟨w,o,e,g,i⟩:=d f;exact⟨w,o,e,c w g,i⟩
theorem NI.lt:∀a,NI g b a->a<b.heap.size:=λa ⟨_,_,k⟩=>k.lt
theorem Nw.lt:∀a,Nw g b a->a<b.heap.size:=λa ⟨_,_,_,k,_⟩=>k.lt
theorem jW (S:Bs)(l:List Int)(h:∀n∈l,gN n):Fl gS 1 v S (aC l) l:=
 ⟨by simp[aC],λk x b=>⟨[.int .i64 x],⟨rfl,h x (kj b)⟩,rfl,λj u a=>by
  cases j with
  |zero=>simp at a;subst a;simp[aC,cI,b]
  |succ j=>simp at a⟩⟩
theorem wG {R:Rel α}(S:Bs)(f:α->List Value)(l:List α)(c:∀x∈l,(f x).length=g)(d:∀x∈l,R v S (f x) x):Fl R g v S (l.flatMap f) l:=by
 induction l with
 |nil=>exact Fl.nil
 |cons a r e=>rw[nW];exact(Fl.one (d a (by simp)) (c a (by simp))).append (e (λx b=>c x (by simp[b])) (λx b=>d x (by simp[b])))
def YD (i:Ins):List Value:=[.int .i64 i.op,.int .i64 i.a]
def lG (p:List Ins):List Value:=p.flatMap YD
theorem Nl (S:Bs)(p:List Ins)(h:∀i∈p,gN i.op/\gN i.a):Fl ky 2 v S (lG p) p:=wG v S YD p (λ_ _=>rfl) (λx b=>⟨rfl,h x b⟩)
theorem Dr (a b:List Ins):lG (a++b)=lG a++lG b:=by simp[lG]
theorem Du (p:List Ins):∀u∈lG p,u.oneCell'=true:=by intro u a;simp only[lG,rz,YD,lx,qp,or_false]at a;obtain⟨p,_,rfl|rfl⟩:=a<;>rfl
theorem Ds (p:List Ins):(lG p).length=p.length*2:=by
 induction p with
 |nil=>rfl
 |cons a r b=>simp only[lG,nW,la,aV,YD,ln]at b ⊢;omega
def ya (p:Pt):List Value:=[.int .i64 p.x,.int .i64 p.y,.bool p.on]
def Gh (p:List Pt):List Value:=p.flatMap ya
theorem SD (S:Bs)(p:List Pt)(h:∀i∈p,gN i.x/\gN i.y):Fl lr 3 v S (Gh p) p:=wG v S ya p (λ_ _=>rfl) (λx a=>⟨rfl,h x a⟩)
theorem JC (a b:List Pt):Gh (a++b)=Gh a++Gh b:=by simp[Gh]
theorem AF (s:B)(c:UInt8)(h:s.contains c=false):Lib.indexByte s c= -1:=by
 induction s with
 |nil=>rfl
 |cons d r a=>
  rw[List.contains_cons,Bool.or_eq_false_iff]at h;have b:(d==c)=false:=by have:=h.1;simp only[beq_eq_false_iff_ne,ne_eq]at this ⊢;exact λe=>this e.symm
  rw[Lib.indexByte,b,a h.2];rfl
theorem Tj (s:B)(c:UInt8)(h:s.contains c=true):Lib.indexByte s c=((dH c s).length:Int)/\s=dH c s++c::dZ c s:=by
 induction s with
 |nil=>simp at h
 |cons d r f=>
  by_cases a:d=c
  .subst a;simp[Lib.indexByte,dH,dZ]
  have g:(d==c)=false:=by simpa using a
  have i:r.contains c=true:=by
   rw[List.contains_cons,Bool.or_eq_true]at h;rcases h with h|h
   .exact absurd (beq_iff_eq.1 h).symm a
   exact h
  obtain⟨e,j⟩:=f i;have k:dH c (d::r)=d::dH c r:=by show List.takeWhile (· !=c) (d::r)=_;rw[List.takeWhile_cons_of_pos (p:=λx=>x !=c) (by simpa using a)];rfl
  have l:dZ c (d::r)=dZ c r:=by show(List.dropWhile (· !=c) (d::r)).drop 1=_;rw[List.dropWhile_cons_of_pos (p:=λx=>x !=c) (by simpa using a)];rfl
  have b:(Lib.indexByte r c== -1)=false:=by rw[e];simp
  rw[Lib.indexByte,g,k,l,b,e];refine⟨by simp,?_⟩;rw[nw,<-j]
theorem TX (a b:B)(c:UInt8):(ByteArray.mk (a++c::b).toArray).extract 0 a.length=⟨a.toArray⟩:=by rw[lm];simp
theorem T3 (a b:B)(c:UInt8):(ByteArray.mk (a++c::b).toArray).extract (a.length+1) (a++c::b).length=⟨b.toArray⟩:=by rw[lm,lf,List.drop_append,sj (by omega),show a.length+1 - a.length=1 by omega];rfl
def hasB (c:UInt8)(s:B):Bool:=s.contains c
theorem Mi (s:B)(c:UInt8)(p:s.length<=800000000):Calls Tryz.prog 152 #[.string s,.string ⟨#[c]⟩] v λe g=>e=.returned (.tuple #[.string (dH c s),.string (dZ c s),.bool (hasB c s)])/\∃n,g=v.drewN n:=by
 cases f:hasB c s with
 |false=>
  have hi:=J (AF s c f);have k:Hid (dH c s=s/\dZ c s=[]):=by refine zw (λd m e=> ?_);subst e;rw[<-Bool.not_eq_true,hasB]at f;exact f (List.contains_iff_mem.2 m)
  clear f;go_enter Tryz.func152,Tryz.ntmps152
  go_wp2_with (go_at_call 149;refine(Tryz.stringslite_Index_one ⟨s.toArray⟩ c _).mono ?_;rintro e g ⟨rfl,rfl⟩;rw[show(Lib.indexByte (ByteArray.mk s.toArray).data.toList c)= -1 from hi.out])
  go_ret3
  rw[k.out.1,k.out.2];exact⟨rfl,0,rfl⟩
 |true=>
  obtain⟨l,h⟩:=Tj s c f;have o:s.length=(dH c s).length+(dZ c s).length+1:=by
   conv=>lhs;rw[h]
   simp;omega
  have i:=TX (dH c s) (dZ c s) c;have j:=T3 (dH c s) (dZ c s) c;rw[<-h]at i j;have hi:=J l;clear l h f;generalize dH c s=a at*
  generalize dZ c s=b at*
  have q:(0:Int)<=(a.length:Int):=by omega
  have r:(a.length:Int)<=(s.length:Int):=by omega
  have t:(a.length:Int)+1<=(s.length:Int):=by omega
  have u:(0:Int)<=(a.length:Int)+1:=by omega
  clear o;go_enter Tryz.func152,Tryz.ntmps152
  go_wp2_with (go_at_call 149;refine(Tryz.stringslite_Index_one ⟨s.toArray⟩ c _).mono ?_;rintro e g ⟨rfl,rfl⟩;rw[show(Lib.indexByte (ByteArray.mk s.toArray).data.toList c)=(a.length:Int)from hi.out])
  go_quiet (fail)
  go_wp2
  go_ret3
  exact⟨rfl,_,rfl⟩
theorem Rx (s:B)(c:UInt8)(a:s.length<=800000000):Calls Tryz.prog 136 #[.string s,.string ⟨#[c]⟩] v λe b=>e=.returned (.tuple #[.string (dH c s),.string (dZ c s),.bool (hasB c s)])/\∃n,b=v.drewN n:=by
 have d:=J (Mi v s c a);clear a;go_enter Tryz.func136,Tryz.ntmps136
 go_wp2_with (go_at_call 152;refine d.mono ?_;rintro e b ⟨rfl,n,rfl⟩)
 go_ret3
 exact⟨rfl,n,rfl⟩
section
open Go.Sort
theorem Ic:(Tryz.prog.info? 9).map (λi=>(i.zero,i.size,i.bytes))=some (some (.string ⟨#[]⟩),1,16):=by kernel_rfl
theorem DK {n:Nat}(h:b.ownsRow g T f z n j):∃A c,z=.slice A n c:=by obtain⟨A,c,h,-⟩:=Rd.U h;exact⟨A,c,h⟩
theorem Pq {rest:List Oper}(l:U.guard=none)(s x:Operand)(v:U.op=.call {callee:= .builtin .append,args:= #[s,x],argTypes:= #[43,43]})(b:World)(d:Nat)(w:b.heap.size=d)(G n c:Nat)(A:Option Addr)(I:List Value)(u:B)(y:k.eval s= A n c)(z:k.eval x=.slice (d,0) 1 1)(e:b.ownsRow G 9 1 (A n c) n I)(D:n<=1000000000000)(E:G<=b)(h:∀j o w',w'.ownsRow G 9 1 (.slice j (n+1) o) (n+1) (I++[.string u])->b.grownBy w' (Value.slice A n c).ownBlock->wpList Tryz.prog H Q rest (k.put U.dst (.slice j (n+1) o)) w'):
  wpList Tryz.prog H Q (U::rest) k (b.alloc (.cells #[.string u] 9)):=by
 subst w;obtain⟨C,m,p,q,r⟩:=info_parts Ic;refine iq _ l s x 43 v G 9 C _ 1 16 Tryz.underlying43 m p q r rfl (by decide) (A n c) n I y (e.alloc _) (b.heap.size+1) (b,0) 1 1 [.string u] z (Rd.newAt _ _ rfl #[.string u] 9 1 1 rfl) (by simp[Value.oneCell']) (by simp only[maxLen];omega) (by omega) (by simp;omega) ?_;intro F w' f g _;obtain⟨j,o,rfl⟩:=DK f;refine h j o w' f ⟨g.os,g.tape,g.output,nt (by simp) g.size,λi hi t=> ?_⟩;exact(g.block i (by simp;omega) t).trans (Below.heap_alloc _ _ _ hi)
theorem kF {q:Array Oper}{rest:List Oper}{o:Oper}{a:Act}{Q:Exit->Act->World->Prop}(e:o.guard=none)(s x:Operand)
  (i:o.op=.call {callee:= .builtin .append,args:= #[s,x],argTypes:= #[43,43]})
  (b:World) (p n c:Nat) (A:Option Addr) (r:List Value) (u:B) (j:a.eval s= A n c) (k:a.eval x=.slice (b,0) 1 1)
  (d:b.ownsRow p 9 1 (A n c) n r) (l:n<=1000000000000) (m:p<=b)
  (h:∀f g w',w'.ownsRow p 9 1 (.slice f (n+1) g) (n+1) (r++[.string u])->b.grownBy w' (Value.slice A n c).ownBlock->wpList Tryz.prog q Q rest (a.put o.dst (.slice f (n+1) g)) w'):
  wpList Tryz.prog q Q (o::rest) a (b.alloc (.cells #[.string u] 9)):=
 Pq e s x i b b.heap.size rfl p n c A r u j k d l m h
theorem G8 {rest:List Oper}(i:U.guard=none)(s x:Operand)(q:U.op=.call {callee:= .builtin .append,args:= #[s,x],argTypes:= #[43,43]})(b:World)(D n c:Nat)(A:Option Addr)(o:List Value)(I:Nat)(G:Option Addr)(m c2:Nat)(F:List B)(r:k.eval s= A n c)(t:k.eval x= G m c2)(d:b.ownsRow D 9 1 (A n c) n o)(u:Rd b I G m 1 (strs F))(z:n+m<=1000000000000)(v:D<=b)(h:∀f g w',w'.ownsRow D 9 1 (.slice f (n+m) g) (n+m) (o++strs F)->b.grownBy w' (Value.slice A n c).ownBlock->wpList Tryz.prog H Q rest (k.put U.dst (.slice f (n+m) g)) w'):
  wpList Tryz.prog H Q (U::rest) k b:=by
 obtain⟨w,j,a,l,p⟩:=info_parts Ic;refine iq _ i s x 43 q D 9 w _ 1 16 Tryz.underlying43 j a l p rfl (by decide) (A n c) n o r d I G m c2 (strs F) t u (J3 F) (by simp only[maxLen];omega) (by omega) v ?_;intro C w' e y _;obtain⟨f,g,rfl⟩:=DK e;exact h f g w' e y
def yt (w:World)(a:List B)(e:Ending)(w':World):Prop:=∃A c,e=.returned (.slice A a.length c)/\w'.ownsRow w.heap.size 9 1 (.slice A a.length c) a.length (strs a)/\Below w w w'
def nv (w:World)(a:List B)(v:Value)(b:World):Prop:=∃A c,v=.slice A a.length c/\b.ownsRow w.heap.size 9 1 (.slice A a.length c) a.length (strs a)/\Below w w b
theorem nv.nil:nv v [] (.slice none 0 0) v:=⟨none,0,rfl,⟨rfl,.inl ⟨rfl,rfl⟩⟩,gD _ _⟩
theorem nv.next {w k:World}{p us:List B}{d:Option Addr}{c n:Nat}(h:Below w w b)(q:Below b b k)(l:b.ownsRow w.heap.size 9 1 (A p.length c) p.length (strs p))(i:a.ownsRow w.heap.size 9 1 (d n f) n (strs p++strs us))(m:k.grownBy a (Value.slice A p.length c).ownBlock)(j:W=p++us):nv w W (d n f) a:=by
 have o:n=W.length:=by have:=i.1;rw[j,la];simp[zS]at this;omega
 subst o;refine⟨d,f,rfl,by rw[j,DW];rw[j]at i;exact i,?_⟩;exact(h.trans (q.mono h.size)).grown m (nt h.size q.size) (λg e=>(l.lt g e).1)
def pT (w:World)(b:List B)(n:Nat)(A:Option Addr)(c:Nat)(a:World):Prop:=n=b.length/\a.ownsRow w.heap.size 9 1 (A n c) n (strs b)/\Below w w a
theorem pT.next {w q:World}{us:List B}{d:Option Addr}{c n:Nat}(h:pT w W n A c a)(r:Below a a b)(s:q.ownsRow w.heap.size 9 1 (d g f) g (strs W++strs us))(i:b.grownBy q (Value.slice A n c).ownBlock):pT w (W++us) g d f q:=by
 obtain⟨rfl,j,k⟩:=h;obtain⟨p,c2,e,l,o⟩:=nv.next k r j s i rfl;simp only[oa]at e;obtain⟨rfl,rfl,rfl⟩:=e;exact⟨rfl,l,o⟩
theorem pT.s {c n:Nat}(h:pT b W n A c a):nv b W (A n c) a:=by obtain⟨rfl,d,e⟩:=h;exact⟨A,c,rfl,d,e⟩
theorem Ce {n c:Nat}(h:b.ownsRow f T g (A n c) n j)(a:n=d):Rd b b.heap.size A d g j:=by subst a;obtain⟨i,m,T,w⟩:=Rd.U h;simp only[oa,true_and]at T;rw[T.1];exact w
theorem ah {w':World}(a:Below b b w'){p:Addr}(h:b.cell? p=some z):w'.cell? p=some z:=(a.cell (World.block_lt_of_cell? b p h)).trans h
theorem pJ {β:Type}(f:α->β)(l:List α)(k:Nat)(x:α)(h:l[k]?=some x):(l.take (k+1)).map f=(l.take k).map f++[f x]:=by obtain⟨a,b⟩:=ll.1 h;rw[re a,b];simp
theorem cO {β:Type}(f:α->List β)(l:List α)(k:Nat)(x:α)(h:l[k]?=some x):(l.take (k+1)).flatMap f=(l.take k).flatMap f++f x:=by obtain⟨a,b⟩:=ll.1 h;rw[re a,b];simp
def PN (w:World)(g:Nat)(a:List hU):Prop:=∃A c,w.cell? (g,1)=some (.slice A a.length c)/\Sl iA 9 w (FT w) A a
theorem PN.below {w w':World}(h:PN w g l)(a:Below w w w'):PN w' g l:=by obtain⟨A,c,b,d⟩:=h;exact⟨A,c,(a.cell (World.block_lt_of_cell? w _ b)).trans b,(KP.below a).sl iA.ok d⟩
theorem PB (a:List hU)(n:Int)(h:n<0):dK a n=63::ag n:=by rw[dK,if_pos h]
theorem Rc (a:List hU)(n:Int)(h:(a.length:Int)<=n):dK a n=63::ag n:=by
 rw[dK];split
 .rfl
 rw[qn (by omega)]
theorem Pw (b:List hU)(n:Int)(x:hU)(a:0<=n)(h:b[n.toNat]?=some x):dK b n=x.gn:=by rw[dK,if_neg (by omega),h]
theorem rZ (a b:B):(ByteArray.mk a.toArray)++⟨b.toArray⟩=⟨(a++b).toArray⟩:=by apply ByteArray.ext;simp
theorem DJ (g:Nat)(O:List hU)(n:Int)(k:iN v)(f:gN n)(r:PN v g O)(s:O.length<=1000000000000):
  Calls Tryz.prog 25 #[.pointer (g,0),n] v λe t=>e=.returned (.string (dK O n))/\Below v v t:=by
 obtain⟨A,c,z,u⟩:=r;by_cases l:n<0
 .have a:=J (PB O n l);have d:=J (bi v n k f);have i:(ByteArray.mk #[63])++⟨(ag n).toArray⟩=⟨(63::ag n).toArray⟩:=rZ [63] (ag n);have j:=wK f;clear f;go_enter Tryz.func25,Tryz.ntmps25
  go_wp2_with (go_at_call 20;refine d.mono ?_;rintro e w ⟨rfl,h⟩)
  go_ret
  exact⟨by rw[a.out];rfl,h⟩
 by_cases p:(O.length:Int)<=n
 .have a:=J (Rc O n p);have d:=J (bi v n k f);have i:(ByteArray.mk #[63])++⟨(ag n).toArray⟩=⟨(63::ag n).toArray⟩:=rZ [63] (ag n);have j:=wK f;clear f;go_enter Tryz.func25,Tryz.ntmps25
  go_wp2_with (go_at_call 20;refine d.mono ?_;rintro e w ⟨rfl,h⟩)
  go_ret
  exact⟨by rw[a.out];rfl,h⟩
 obtain⟨m,rfl⟩:∃m:Nat,n=m:=⟨n.toNat,by omega⟩
 have y:m<O.length:=by omega
 obtain⟨b,o,x,B,c3,C,D,E,F,G,H,I,N,K,L,rfl,-,q,M,-⟩:=u.z y;have a:=J (Pw O m x (by omega) (by simpa using q.out));clear f q p l;go_enter Tryz.func25,Tryz.ntmps25
 go_wp2;go_ret
 exact⟨by rw[a.out];rfl,gD _ _⟩
theorem zT (A:Option Addr)(c:Nat)(l:List Int)(y:iN v)(z:Sl gS 1 v (FT v) A l)(E:l.length<=100000000000):
  Calls Tryz.prog 22 #[A l.length c] v (yt v (l.map ag)):=by
 go_enter Tryz.func22,Tryz.ntmps22
 go_wp2;go_loopw [3,8] (λw i wr=>∃k:Nat,k<=l.length/\i=.int .i64 k/\nv v ((l.take k).map ag) w wr) (λ_ i _=>l.length - (intOf i).toNat)
 case atStart=>exact⟨0,nz _,rfl,by simpa using nv.nil v⟩
 case round=>
  obtain⟨k,F,rfl,s,c3,rfl,a,d⟩:=hrel;have f:((l.take k).map ag).length=k:=by simp;omega
  by_cases m:k<l.length
  .obtain⟨b,o,x,rfl,-,t,G,u⟩:=((KP.below d).sl gS.ok z).int m;have B:=J (bi wr x (y.all d) u);have C:=J (pJ ag l k x t);have n:=J f;generalize g:(l.take k).map ag=j at*
   have H:=d.size;have p:j.length<=1000000000000:=by rw[n.out];omega
   clear t u g f;go_wp2_with (first
    |(go_at_call 20;refine B.mono ?_;rintro e D ⟨rfl,h⟩;have I:=h.size)
    |(at_builtin;refine kF rfl (.tmp 12) (.tmp 15) rfl D v.heap.size j.length c3 s (strs j) (ag x) rfl rfl (gj a h) p (by omega) ?_;intro M K L q r))
   go_roundw
   case rel=>exact⟨k+1,by omega,by simp,nv.next d h a (us:=[ag x]) q r C⟩
   case measure=>simp[intOf];omega
  obtain rfl:k=l.length:=by omega
  have n:Hid ((l.take l.length).map ag=l.map ag):=by show _=_;rw[lf]
  generalize g:(l.take l.length).map ag=j at*
  clear g f;go_wp2;go_ret
  rw[<-n.out];exact⟨s,c3,rfl,a,d⟩
theorem TF (g:Nat)(Q:List hU)(A:Option Addr)(c:Nat)(l:List Int)(B:iN v)(C:PN v g Q)(n:Q.length<=1000000000000)(D:Sl gS 1 v (FT v) A l)(H:l.length<=100000000000):
  Calls Tryz.prog 115 #[.pointer (g,0),A l.length c] v (yt v (l.map (dK Q))):=by
 go_enter Tryz.func115,Tryz.ntmps115
 go_wp2;go_loopw [5,10] (λw i wr=>∃k:Nat,k<=l.length/\i=.int .i64 k/\nv v ((l.take k).map (dK Q)) w wr) (λ_ i _=>l.length - (intOf i).toNat)
 case atStart=>exact⟨0,nz _,rfl,by simpa using nv.nil v⟩
 case round=>
  obtain⟨k,I,rfl,u,c3,rfl,d,a⟩:=hrel;have f:((l.take k).map (dK Q)).length=k:=by simp;omega
  by_cases p:k<l.length
  .obtain⟨b,o,x,rfl,-,y,P,z⟩:=((KP.below a).sl gS.ok D).int p;have E:=J (DJ wr g Q x (B.all a) z (C.below a) n);have F:=J (pJ (dK Q) l k x y);have q:=J f;generalize h:(l.take k).map (dK Q)=m at*
   have K:=a.size;have r:m.length<=1000000000000:=by rw[q.out];omega
   clear y z h f;go_wp2_with (first
    |(go_at_call 25;refine E.mono ?_;rintro e G ⟨rfl,j⟩;have L:=j.size)
    |(at_builtin;refine kF rfl (.tmp 14) (.tmp 18) rfl G v.heap.size m.length c3 u (strs m) (dK Q x) rfl rfl (gj d j) r (by omega) ?_;intro M N O s t))
   go_roundw
   case rel=>exact⟨k+1,by omega,by simp,nv.next a j d (us:=[dK Q x]) s t F⟩
   case measure=>simp[intOf];omega
  obtain rfl:k=l.length:=by omega
  have q:Hid ((l.take l.length).map (dK Q)=l.map (dK Q)):=by show _=_;rw[lf]
  generalize h:(l.take l.length).map (dK Q)=m at*
  clear h f;go_wp2;go_ret
  rw[<-q.out];exact⟨u,c3,rfl,d,a⟩
end
theorem YF:∀k:Fin 8,∃s,aH[k.val]?=some s/\jH aH s=(k.val:Int)+1/\dA s=true:=by decide+kernel
theorem XM:∀k:Fin 4,∃s,anchorNames[k.val]?=some s/\jH anchorNames s=(k.val:Int)+1/\dA s=true:=by decide+kernel
theorem Py (n:Int)(d:1<=n)(e:n<=8):jH aH (pick aH n)=n/\dA (pick aH n)=true:=by
 obtain⟨s,a,b,c⟩:=YF ⟨(n - 1).toNat,by omega⟩;have:pick aH n=s:=by unfold pick;rw[if_neg (by omega)];simp only at a;rw[a];rfl
 rw[this];simp only at b;exact⟨by omega,c⟩
theorem Pv (n:Int)(d:1<=n)(e:n<=4):jH anchorNames (pick anchorNames n)=n/\dA (pick anchorNames n)=true:=by
 obtain⟨s,a,b,c⟩:=XM ⟨(n - 1).toNat,by omega⟩;have:pick anchorNames n=s:=by unfold pick;rw[if_neg (by omega)];simp only at a;rw[a];rfl
 rw[this];simp only at b;exact⟨by omega,c⟩
section
variable (gl:Gl) (s:PS) (r:List B)
theorem Xp:stmt gl s (nN::r)=sG s r:=by simp[stmt]
theorem Xj:stmt gl s (wZ::r)=Bc s r:=by simp[stmt]
theorem PM:stmt gl s (kY::r)=ui s r:=by simp[stmt]
theorem zE:stmt gl s (oO::r)=Ui s r:=by simp[stmt]
theorem Xl:stmt gl s (sH::r)=Bf s r:=by simp[stmt]
theorem Ml:stmt gl s (CB::r)=mV gl s r:=by simp[stmt]
theorem UI:stmt gl s (fB::r)=jv gl s r:=by simp[stmt]
theorem MM:stmt gl s (ik::r)=kG s r:=by simp[stmt]
theorem Xn:stmt gl s (sJ::r)=wY gl s r:=by simp[stmt]
theorem PK:stmt gl s (lY::r)=lX s r:=by simp[stmt]
theorem UH:stmt gl s (pO::r)=rV s r:=by simp[stmt]
theorem Xm:stmt gl s (qG::r)=wX s r:=by simp[stmt]
theorem Xk:stmt gl s (xe::r)=Be gl s r:=by simp[stmt]
theorem PL:stmt gl s (iW::r)=jB s r:=by simp[stmt]
theorem Xo:stmt gl s (ku::r)=gK gl s r:=by simp[stmt]
theorem MN:stmt gl s (kH::r)=tq s r:=by simp[stmt]
end
theorem NY {k:List hU}(h:nu i k)(j:Int)(r:k')(d:qw k.length j r):∀w∈j' k j r,w≠[47]/\w≠[62]/\dA w=true:=by
 have num:∀(n:Int),ag n≠[47]/\ag n≠[62]/\dA (ag n)=true:=λn=>⟨λe=>by
  have:=sV n 47 (by rw[e];simp)
  revert this
  decide,λe=>by
  have:=sV n 62 (by rw[e];simp)
  revert this
  decide,vw n⟩
 intro w a;unfold j' at a;split at a
 .rw[mN]at a;obtain⟨n,g,rfl⟩:=a;have f:=(Dp h (d.out n g)).2;have:=NV f;exact⟨this.2.2.1,this.2.2.2,sW f⟩
 split at a
 .rw[mN]at a;obtain⟨c,gl,rfl⟩:=a;have b:(58:UInt8)∈ag c.iB++58::ag c.lookup:=by simp
  refine⟨λe=> ?_,λe=> ?_,(Px c (d.gw c gl) 0).2.2.2⟩
  .rw[e]at b;revert b;decide
  rw[e]at b;revert b;decide
 split at a
 .simp only[js]at a;subst a;exact num r.x
 simp at a
def G7 (b:List hU)(a:List B)(l:List (List Int)):Prop:=(∀w∈a,w≠[47]/\w≠[62])/\fK a=some (l.map (λs=>s.map (dK b)))
theorem FI (h:nu i l)(I:l.length<=1000)(s:PS)(a:gH)(j:s.f.ge.getLast? =some a)(S:1<=a.gd/\a.gd<=8)(r:k')(b:qw l.length a.gd r)(p q u:List B)(z:G7 l p r.gE)(A:G7 l q r.ij)(C:G7 l u r.ahead):
  gK i s (p++[47]::q++[47]::u++[62]::j' l a.gd r)=.ok (nY s λa=> {a with gC:=a.gC++[r]}):=by
 have hi:∀gl:List (List Int),(∀x∈gl,pf l.length x)->(∀x∈gl,∀n∈x,In l.length n)/\(∀x∈gl,(∀n∈x,In l.length n)/\x.length<=1000)/\gl.map setOf=gl:=λgl j=>by
  refine⟨λx k=>(j x k).2,λx k=>⟨(j x k).2,nt (WX (j x k)) I⟩,?_⟩
  conv=>rhs;rw[<-List.map_id gl]
  exact List.map_congr_left (λx k=>UB x (j x k).1)
 obtain⟨T,aa,K⟩:=hi _ b.gE;obtain⟨U,L,M⟩:=hi _ b.ij;obtain⟨V,c2,c3⟩:=hi _ b.ahead;have F:rU (p++[47]::q++[47]::u++[62]::j' l a.gd r)=some [p,q,u,j' l a.gd r]:=I3 _ _ _ _ z.1 A.1 C.1 (λw G=>⟨(NY h _ r b w G).1,(NY h _ r b w G).2.1⟩);unfold gK;simp only[j,F,z.2,A.2,C.2,zQ h s.ia _ aa,zQ h s.ia _ L,zQ h s.ia _ c2,lE,K,M,c3];clear z A C F;obtain⟨v,y⟩:=Lf h r.out b.out 0;obtain⟨N,O,P,-⟩:=Zh r.gw b.gw 0;have Q:=iQ r.x b.x 0;have R:=(fJ r.x b.x).2;have d:a.gd=1\/a.gd=2\/a.gd=3\/a.gd=4\/a.gd=5\/a.gd=6\/a.gd=7\/a.gd=8:=by omega
 have c:=b.one;have m:=b.outs;have g:=b.uW;have gs:=b.u';have o:=b.ij;cases r with
 |mk W X Y H Z rx=>
 simp only at*
 rcases d with e|e|e|e|e|e|e|e<;>rw[e]at c m g gs ⊢
 case inl=>obtain⟨t,rfl,D⟩:=c (by simp);have E:=(o t (by simp)).1;simp[fF,j',v,y,Gn t H E D,g,gs]
 case inr.inl=>simp[fF,j',v,y,g,gs]
 case inr.inr.inl=>simp[fF,j',v,y,g,gs]
 case inr.inr.inr.inl=>have:=m (by simp);subst this;simp[fF,j',N,O,P,gs]
 case inr.inr.inr.inr.inl=>obtain⟨t,rfl,D⟩:=c (by simp);have E:=(o t (by simp)).1;simp[fF,j',v,y,Gn t H E D,g,gs]
 case inr.inr.inr.inr.inr.inl=>have:=m (by simp);subst this;simp[fF,j',gu,Q,R,g]
 case inr.inr.inr.inr.inr.inr.inl=>have:=m (by simp);subst this;simp[fF,j',g,gs]
 case inr.inr.inr.inr.inr.inr.inr=>have:=m (by simp);subst this;simp[fF,j',g,gs]
theorem IN {c:List hU}(h:nu i c)(l:List (List Int))(a:∀s∈l,∀n∈s,In c.length n):G7 c (di c l) l:=⟨λw b=>⟨(DT h _ a w b).1,(DT h _ a w b).2.1⟩,IF h _ a⟩
def TS (d:List TypeId)(c:Nat)(w:World):Bs:=λb=>c<=b/\∃a t,Bk w b t a/\t∈d
theorem TS.lt {c:List TypeId}:∀a,TS c g b a->a<b.heap.size:=λa ⟨_,_,_,h,_⟩=>h.lt
theorem TS.mono {l k:List TypeId}(h:∀t∈l,t∈k)(j:f<=g):∀w,TS l g b w->TS k f b w:=λw ⟨i,c,t,d,a⟩=>⟨by omega,c,t,d,h t a⟩
def Sp (m:Nat)(e:TypeId)(w w':World):Prop:=∃a,w.grownBy w' a/\∀x,a=some x->m<=x/\∃b,Bk w x e b
section
variable {m:Nat} {e t:TypeId} {w w':World}
theorem Sp.size (h:Sp m e w w'):w.heap.size<=w'.heap.size:=by obtain⟨a,b,_⟩:=h;exact b.size
theorem Sp.bk {g:Nat}{l:Array Value}(h:Sp m e w w')(a:Bk w g t l)(b:t≠e):Bk w' g t l:=by
 obtain⟨c,d,f⟩:=h;exact(d.block g a.lt (λi=>by
  obtain⟨-,j,k⟩:=f g i.symm;exact b (dw a k).1)).trans a
theorem Sp.own {q r n:Nat}{v:Value}{s:List Value}(h:Sp m e w w')(c:w.ownsRow q t r v n s)(a:t≠e):w'.ownsRow q t r v n s:=by
 obtain⟨d,f,i⟩:=h;refine c.kept f ?_;cases j:v.ownBlock with
 |none=>exact .inl rfl
 |some g=>exact .inr (λk=>by
   obtain⟨-,l,o⟩:=i g k.symm;obtain⟨p,b⟩:=iI c g j;exact a (dw b o).1)
theorem Sp.ts {u:List TypeId}{s:Nat}(h:Sp m e w w')(f:e ∉ u):Same (TS u s w) w w'/\∀b,TS u s w b->TS u s w' b:=by
 have a:∀b,TS u s w b->w'.heap[b]?=w.heap[b]? :=λb ⟨_,g,i,c,d⟩=>by
  obtain⟨l,n,o⟩:=h;exact n.block b c.lt (λp=>by
   obtain⟨-,q,j⟩:=o b p.symm;exact f ((dw c j).1 ▸ d))
 exact⟨a,λb r=>by
  obtain⟨k,g,i,c,d⟩:=r;exact⟨k,g,i,(a b ⟨k,g,i,c,d⟩).trans c,d⟩⟩
theorem Sp.sl {α:Type}{R:Rel α}(b:R.Ok){f:Nat}{A:Option Addr}{i:List α}{g:List TypeId}{d:Nat}(h:Sp m e w w')(a:e ∉ g)(c:Sl R f w (TS g d w) A i):Sl R f w' (TS g d w') A i:=c.C b (h.ts a)
theorem Sp.V {α:Type}{R:Rel α}(b:R.Ok){g:Nat}{d:List Value}{j:List α}{i:List TypeId}{f:Nat}(h:Sp m e w w')(a:e ∉ i)(c:Fl R g w (TS i f w) d j):Fl R g w' (TS i f w') d j:=c.C b (h.ts a)
theorem Sp.rd {A:Option Addr}{n j:Nat}{k:List Value}(h:Sp m e w w')(a:m<=w)(b:Rd w m A n j k):Rd w' m A n j k:=by obtain⟨c,d,f⟩:=h;exact b.grown d a (λg i=>(f g i).1)
theorem Sp.mk {p:Nat->Value}{q:Int}(h:Sp m e w w')(d:Mk w m p q)(b:pU≠e):Mk w' m p q:=by have o:=d.lt;obtain⟨A,n,c,a,f,g,i,j,k,l⟩:=d;exact⟨A,n,c,a,f,h.bk g b,i,j,h.rd (by omega) k,l⟩
theorem Sp.below (a:Below w w w'):Sp m e w w':=⟨none,az a none,λx b=>by cases b⟩
theorem Sp.next {i:Nat->Value}{j:Int}(d:Mk w m i j)(f:Mv m w w'):Sp m pU w w':=⟨some m,f,λx b=>by
 injection b with b
 subst b;obtain⟨A,n,c,a,h,g,-⟩:=d;exact⟨ae _,_,g⟩⟩
theorem Sp.push {f g n:Nat}{v:Value}{h:List Value}(a:w.ownsRow f e g v n h)(c:m<=f)(d:w.grownBy w' v.ownBlock):Sp m e w w':=⟨_,d,λx b=>⟨nt c (a.lt x b).1,iI a x b⟩⟩
theorem Sp.set {g:Nat}{d:Array Value}(b:Bk w g e d)(c:m<=g)(j:Nat)(u:Value):Sp m e w (w.setCell (g,j) u):=⟨some g,aX (World.grownBy.refl _ _) (.inl rfl) u,λx a=>by
 injection a with a
 subst a;exact⟨c,d,b⟩⟩
theorem Ig (m:Nat)(w:World):Mv m w w:=World.grownBy.refl _ _
theorem xX {f:World}{row:Option Nat}(h:Mv m f w)(a:w.grownBy w' row)(c:∀x,row=some x->f.heap.size<=x\/x=m):Mv m f w':=
 ⟨a.os.trans h.os,a.tape.trans h.tape,a.output.trans h.output,nt h.size a.size,λi hi b=>(a.block i (mz hi h.size) (λd=>by
  rcases c i d.symm with h1|h1
  .omega
  exact b (by rw[h1]))).trans (h.block i hi b)⟩
theorem lq {c:World}(h:Mv m c w)(a:Below w w w'):Mv m c w':=xX h (az a none) (λx b=>by cases b)
theorem iD {c:World}(h:Mv m c w)(b:Mv m w w'):Mv m c w':=xX h b (λx a=>by injection a with a;exact .inr a.symm)
theorem lW {i:World}{f g n:Nat}{v:Value}{j:List Value}(h:Mv m i w)(a:w.ownsRow f e g v n j)(b:i.heap.size<=f)(c:w.grownBy w' v.ownBlock):Mv m i w':=xX h c (λx d=> .inl (nt b (a.lt x d).1))
theorem xY {c:World}{g:Nat}(h:Mv m c w)(b:c.heap.size<=g)(j:Nat)(u:Value):Mv m c (w.setCell (g,j) u):=xX h (aX (World.grownBy.refl _ _) (.inl rfl) u) (λx a=>by injection a with a;exact .inl (by rw[<-a];exact b))
theorem dW {b o:Nat}{u:Value}(c:Mv m w w')(a:b≠m)(h:w.cell? (b,o)=some u):w'.cell? (b,o)=some u:=by have d:=World.block_lt_of_cell? w _ h;exact Same.cell (S:=λx=>x=b) (λx f=>by subst f;exact c.block x d (λg=>a (by injection g))) rfl h
theorem dV {α:Type}{R:Rel α}{l:Nat}{o:List Value}{r:List α}{A:Option Addr}{p a n c:Nat}{q:List TypeId}(h:w.ownsRow p e l (A n c) n o)(i:Fl R l w (TS q a w) o r)(he:e∈q)(k:a<=p)(b:0<l):Sl R l w (TS q a w) A r:=
 Sl.pk h i (λg f=>by
  obtain⟨d,j⟩:=iI h g f;exact⟨by have:=(h.lt g f).1;omega,d,e,j,he⟩) b
theorem Sl.ts {α:Type}{R:Rel α}(b:R.Ok){g:Nat}{A:Option Addr}{k:List α}{j i:List TypeId}{f a:Nat}(h:Sl R g w (TS j f w) A k)(c:∀t∈j,t∈i)(d:a<=f):Sl R g w (TS i a w) A k:=h.mono b (TS.mono c d)
end
theorem dJ (E:mh g f d)(F:TypeId)(b:World)(C n c:Nat)(A:Option Addr)(D:List Value)(a:Array Value)(o:a.size=d)(z:b.ownsRow C g d (A n c) n D)(p:∀u∈a.toList,u.oneCell'=true)(x:n<=10000000000)(y:C<=b):
  ∃t h w',(Builtin.append_ #[f,f] F #[A n c,.slice (b,0) 1 1]).run Tryz.prog (b.alloc (.cells a g))=.ok (.slice t (n+1) h) w'/\w'.ownsRow C g d (.slice t (n+1) h) (n+1) (D++a.toList)/\b.grownBy w' (Value.slice A n c).ownBlock/\Loc b (A n c) (.slice t (n+1) h):=by
 obtain⟨t,h,w',j,q,k,r⟩:=wP E F (b.alloc (.cells a g)) C n c A D (z.alloc _) (b.heap.size+1) (b,0) 1 1 a.toList (Rd.newAt _ _ rfl a g 1 d (by omega)) p (by omega) (by simp;omega);refine⟨t,h,w',j,q,⟨k.os,k.tape,k.output,nt (by simp) k.size,λi hi l=> ?_⟩,r.imp id λs e v=>by have:=s e v;simp at this;omega⟩;exact(k.block i (by simp;omega) l).trans (Below.heap_alloc _ _ _ hi)
theorem bJ (z:Int)(k:Nat)(h:1<=k):∃r:Int,z.tmod (k:Int)=r/\ -(k:Int)<r/\r<k:=by
 refine⟨_,rfl,?_,?_⟩
 .rw[Int.tmod_eq_emod];have b:=Int.emod_nonneg z (show(k:Int)≠0 by omega);split
  .omega
  rename_i a;have c:z % (k:Int)≠0:=λe=>a (.inr (Int.dvd_of_emod_eq_zero e))
  omega
 exact Int.tmod_lt_of_pos z (by omega)
theorem aY (r:Int)(k:Nat)(h:1<=k)(a:0<=r):∃x:Nat,r.tmod (k:Int)=x/\x<k:=by
 refine⟨(r % (k:Int)).toNat,?_,?_⟩
 .rw[Int.tmod_eq_emod_of_nonneg a,Int.toNat_of_nonneg (Int.emod_nonneg _ (by omega))]
 have:=Int.emod_lt_of_pos r (show(0:Int)<k by omega);have:=Int.emod_nonneg r (show(k:Int)≠0 by omega);omega
def QX (w:World)(m:Nat)(a:Nat->Value)(b:Int)(k:Nat)(e:Ending)(w':World):Prop:=∃x:Nat,x<k/\e=.returned (.int .i64 x)/\Mk w' m a b/\Mv m w w'
theorem aA (m:Nat)(P:Nat->Value)(Q:Int)(k:Nat)(h:Mk v m P Q)(i:1<=k)(H:k<=1000000):
  Calls Tryz.prog 29 #[.pointer (m,0),k] v (QX v m P Q k):=by
 obtain⟨A,n,c,a,q,d,B,s,f,g⟩:=h;have t:=J d;have u:=J f;have w:=J g;have I:v.cell? (m,0)=some (A n c):=d.cell 0;have O:v.cell? (m,1)=some (.int .i64 a):=d.cell 1;have K:=d.frozen 1;have L:=d.lt;by_cases e:a<n
 .obtain⟨b,o,z,rfl,C,y,M⟩:=f.uq e;have j:=g z (kj y);obtain⟨r,D,E,F⟩:=bJ z k i;obtain⟨x,G,l⟩:=aY (r+k) k i (by omega);unfold gN at j;clear d f g y;go_enter Tryz.func29,Tryz.ntmps29
  go_wp2_with fail
  go_quiet (fail)
  go_wp2_with fail
  go_quiet (fail)
  go_wp2_with fail
  go_ret
  refine⟨x,l,rfl,?_,aX (kQ (World.grownBy.refl _ _) _) (.inl rfl) _⟩;refine⟨some ⟨b,o,none⟩,n,c,a+1,q,?_,e,s,(u.drewN _).setCell (p:=(m,1)) (ae _) _,w⟩;exact Bk.set (w:=v.drewN _) t 1 (.int .i64 (a+1))
 have N:decide ((n:Int)<=a)=true:=by simp;omega
 clear d f g;go_enter Tryz.func29,Tryz.ntmps29
 go_wp2_with fail
 go_quiet (fail)
 go_wp2_with fail
 go_ret
 exact⟨0,i,rfl,⟨A,n,c,a,q,t,B,s,u.drewN _,w⟩,kQ (World.grownBy.refl _ _) _⟩
theorem CC {l:List (String×DataW Unit)}(h:laidMet Tryz.prog l b)(a:("fleuron/unparse.opNames",Rows.laid_fleuron_unparse_opNames)∈l)(w:("fleuron/unparse.anchorNames",Rows.laid_fleuron_unparse_anchorNames)∈l)(c:("fleuron/unparse.lookupNames",Rows.laid_fleuron_unparse_lookupNames)∈l)(d:("internal/strconv.uint64pow10",Rows.laid_internal_strconv_uint64pow10)∈l):iN b:=
 ⟨uk (kP h a) (by kernel_rfl) (by kernel_rfl) Tryz.underlying125 Tryz.underlying9 (by kernel_rfl) (by kernel_rfl),
 uk (kP h w) (by kernel_rfl) (by kernel_rfl) Tryz.underlying180 Tryz.underlying9 (by kernel_rfl) (by kernel_rfl),
 uk (kP h c) (by kernel_rfl) (by kernel_rfl) Tryz.underlying181 Tryz.underlying9 (by kernel_rfl) (by kernel_rfl),
 Ex (k:= .u64) (zs:=Lib.pow10Tab) (kP h d) (by kernel_rfl) (by kernel_rfl) Tryz.underlying247 Tryz.underlying233 (by kernel_rfl) (by kernel_rfl)⟩
theorem CA {l:List (String×DataW Unit)}(h:laidMet Tryz.prog l b)(a:("math/bits.deBruijn64tab",Rows.laid_math_bits_deBruijn64tab)∈l):nG≤b.heap.size:=
 Ay (kP h a) (by kernel_rfl)
theorem vY (s:B)(c:UInt8):Calls Tryz.prog 135 #[.string s,.string ⟨#[c]⟩] v λe a=>e=.returned (.int .i64 ((Lib.countByte s c:Nat):Int))/\v=a:=(Tryz.strings_Count_one ⟨s.toArray⟩ c v).mono λ_ _ ⟨b,d⟩=>⟨b,d.symm⟩
theorem DF (s:B)(c:UInt8):Calls Tryz.prog 130 #[.string s,.string ⟨#[c]⟩] v λe a=>e=.returned (.int .i64 (Lib.indexByte s c))/\v=a:=(Tryz.strings_Index_one ⟨s.toArray⟩ c v).mono λ_ _ ⟨b,d⟩=>⟨b,d.symm⟩
def TU (t:B):Bool:=decide (t.count 58<=1)
def He (t:B):Bool:=t.count 58==1
theorem XN (t:B):Calls Tryz.prog 134 #[.string t] v λe a=>e=.returned (.bool (TU t))/\v=a:=by
 have b:Hid (decide (((Lib.countByte t 58:Nat):Int)<=1)=TU t):=by show _=_;rw[TU,Lib.countByte];exact decide_eq_decide.2 (by omega)
 go_enter Tryz.func134,Tryz.ntmps134
 go_wp2_with (go_at_call 135;refine(vY _ t 58).mono ?_;rintro e a ⟨rfl,rfl⟩)
 go_ret
 exact⟨by rw[<-b.out];simp,rfl⟩
theorem Q7 (t:B):Calls Tryz.prog 155 #[.string t] v λe a=>e=.returned (.bool (He t))/\v=a:=by
 have b:Hid ((((Lib.countByte t 58:Nat):Int)==1)=He t):=by show _=_;rw[He,Lib.countByte,Bool.eq_iff_iff,beq_iff_eq,beq_iff_eq];omega
 go_enter Tryz.func155,Tryz.ntmps155
 go_wp2_with (go_at_call 135;refine(vY _ t 58).mono ?_;rintro e a ⟨rfl,rfl⟩)
 go_ret
 exact⟨by rw[<-b.out];try simp,rfl⟩
theorem H' (s:B)(c:UInt8):c ∉ dH c s:=by
 induction s with
 |nil=>simp[dH]
 |cons d r b=>
  by_cases a:d=c
  .subst a;simp[dH]
  have:dH c (d::r)=d::dH c r:=by show List.takeWhile (· !=c) (d::r)=_;rw[List.takeWhile_cons_of_pos (p:=λx=>x !=c) (by simpa using a)];rfl
  rw[this,lx];rintro(e|e)
  .exact a e.symm
  exact b e
theorem N6 (s:B)(c:UInt8)(h:hasB c s=true):s.idxOf c=(dH c s).length:=by
 obtain⟨d,a⟩:=Tj s c h;have b:=H' s c
 conv=>lhs;rw[a]
 rw[List.idxOf_append,if_neg b];simp
theorem Qc (t:B)(o:t.length<=800000000):Calls Tryz.prog 139 #[.string t] v λe d=>e=.returned (.bool (og t))/\v=d:=by
 have h:=Lib.indexByte_ge t 42;by_cases f:Lib.countByte t 44=1
 .have c:t.count 44=1:=f;cases g:hasB 42 t with
  |false=>
   have hi:=J (AF t 42 g);have i:Hid (og t=true):=by show _=_;have:t.contains 42=false:=g;rw[og,c,this];rfl
   have j:=J f;clear f c g h o;go_enter Tryz.func139,Tryz.ntmps139
   go_wp2_with (first
    |(go_at_call 130;refine(DF _ t 42).mono ?_;rintro e d ⟨rfl,rfl⟩;rw[hi.out])
    |(go_at_call 135;refine(vY _ t 44).mono ?_;rintro e d ⟨rfl,rfl⟩;rw[j.out]))
   go_ret
   exact⟨by rw[i.out];rfl,rfl⟩
  |true=>
   obtain⟨l,m⟩:=Tj t 42 g;have hi:=J l;have k:=N6 t 42 g;have p:(dH 42 t).length<t.length:=by
    conv=>rhs;rw[m]
    simp
   have j:=J f;have b:t.contains 42=true:=g;by_cases he:(dH 42 t).length+1=t.length
   .have i:Hid (og t=true):=by
     show _=_;rw[og,c,b,k];simp;omega
    have n:(((dH 42 t).length:Int)==(t.length:Int) - 1)=true:=by simp;omega
    clear f c g l m k h he b;generalize (dH 42 t).length=a at*
    go_enter Tryz.func139,Tryz.ntmps139
    go_wp2_with (first
     |(go_at_call 130;refine(DF _ t 42).mono ?_;rintro e d ⟨rfl,rfl⟩;rw[hi.out])
     |(go_at_call 135;refine(vY _ t 44).mono ?_;rintro e d ⟨rfl,rfl⟩;rw[j.out]))
    go_ret
    exact⟨by rw[i.out];rfl,rfl⟩
   have i:Hid (og t=false):=by show _=_;rw[og,c,b,k];simp;omega
   have n:(((dH 42 t).length:Int)==(t.length:Int) - 1)=false:=by simp;omega
   clear f c g l m k h he b;generalize (dH 42 t).length=a at*
   go_enter Tryz.func139,Tryz.ntmps139
   go_wp2_with (first
    |(go_at_call 130;refine(DF _ t 42).mono ?_;rintro e d ⟨rfl,rfl⟩;rw[hi.out])
    |(go_at_call 135;refine(vY _ t 44).mono ?_;rintro e d ⟨rfl,rfl⟩;rw[j.out]))
   go_ret
   exact⟨by rw[i.out];rfl,rfl⟩
 have i:Hid (og t=false):=by
  show _=_;have:(t.count 44==1)=false:=by simpa [Lib.countByte]using f
  rw[og,this];rfl
 have n:(((Lib.countByte t 44:Nat):Int)==1)=false:=by simp;omega
 clear f;generalize Lib.indexByte t 42=z at*
 go_enter Tryz.func139,Tryz.ntmps139
 go_wp2_with (first
  |(go_at_call 130;refine(DF _ t 42).mono ?_;rintro e d ⟨rfl,rfl⟩)
  |(go_at_call 135;refine(vY _ t 44).mono ?_;rintro e d ⟨rfl,rfl⟩))
 go_ret
 exact⟨by rw[i.out];rfl,rfl⟩
theorem vX {a:List P3}{k:Nat}{y:Int}(h:a[k]?=some (o,y,n)):(o,y,n)∈a:=kj h
theorem G3 (e:List P3)(a:B->Bool)(k:Nat)(x y:Int)(z:B)(h:e[k]?=some (x,y,z))(b:(e.take k).all (λx=>a x.2.2)=true):(e.take (k+1)).all (λx=>a x.2.2)=a z:=by obtain⟨c,d⟩:=ll.1 h;rw[re c,List.all_append,b,d];simp
theorem P' (c:List P3)(a:B->Bool)(k:Nat)(x y:Int)(z:B)(h:c[k]?=some (x,y,z))(b:a z=false):c.all (λx=>a x.2.2)=false:=by rw[List.all_eq_false];exact⟨_,kj h,by simpa using b⟩
theorem Bq (F:Nat)(g:B->Bool)(C:∀(K:Array Value) (w:World),(callFunc F K).run Tryz.prog w=.ok (.enter F K) w)(hF:∀(w:World) (t:B),t.length<=800000000->Calls Tryz.prog F #[.string t] w λe h=>e=.returned (.bool (g t))/\w=h)
  (w:World) (A:Option Addr) (n c:Nat) (L:List P3) (u:i7 w 101 A n 3 (dP L)) (p:∀x∈L,x.2.2.length<=800000000) (D:n<=1000000000):
  Calls Tryz.prog 133 #[A n c,.func (.func F) #[] #[]] w λe h=>e=.returned (.bool (L.all (λx=>g x.2.2)))/\Below w.heap.size w h:=by
 have q:=J u.rd.Z;go_enter Tryz.func133,Tryz.ntmps133
 go_wp2;go_loopw [9] (λi wr=>∃k:Nat,k<=n/\i=.int .i64 k/\Hid ((L.take k).all (λx=>g x.2.2)=true)/\Below w.heap.size w wr) (λi _=>n - (intOf i).toNat)
 case atStart=>exact⟨0,nz _,rfl,rfl,gD _ _⟩
 case round=>
  obtain⟨k,E,rfl,d,f⟩:=hrel;by_cases r:k<n
  .obtain⟨b,o,x,y,z,rfl,v,j,G,H,I⟩:=(u.below f).rd.rB r;have s:z.length<=800000000:=p _ (vX j);have l:=J (λw=>hF w z s);cases a:g z with
   |true=>
    have m:=J ((G3 L g k x y z j d).trans a);have a:=J a;clear s j d hF p;go_wp2_with (refine(l _).mono ?_;rintro e h ⟨rfl,rfl⟩;rw[a.out])
    go_roundw
    case rel=>exact⟨k+1,by omega,by simp,m,f.alloc f.size _⟩
    case measure=>simp[intOf];omega
   |false=>
    have m:=J (P' L g k x y z j a);have a:=J a;clear s j d hF p;go_wp2_with (refine(l _).mono ?_;rintro e h ⟨rfl,rfl⟩;rw[a.out])
    go_ret
    exact⟨by rw[m.out];rfl,f.alloc f.size _⟩
  obtain rfl:k=n:=by omega
  have m:Hid (L.all (λx=>g x.2.2)=true):=by
   show _=_;have:=d.out
   rwa [oY (by rw[q.out];exact ae _)]at this
  go_wp2;go_ret
  exact⟨by rw[m.out];rfl,f⟩
theorem OT (A:Option Addr)(n c:Nat)(i:List P3)(a:i7 v 101 A n 3 (dP i))(b:∀x∈i,x.2.2.length<=800000000)(d:n<=1000000000):
  Calls Tryz.prog 93 #[A n c] v λe f=>e=.returned (.bool (i.all (λx=>TU x.2.2)))/\Below v.heap.size v f:=by
 have g:=J (Bq 134 TU (λ_ _=>enters_of Tryz.func134 (by kernel_rfl) rfl _ _) (λv t _=>XN v t) v A n c i a b d);clear a b d;go_enter Tryz.func93,Tryz.ntmps93
 go_wp2_with (go_at_call 133;refine g.mono ?_;rintro e f ⟨rfl,h⟩)
 go_ret
 exact⟨rfl,h⟩
theorem UW (A:Option Addr)(n c:Nat)(i:List P3)(a:i7 v 101 A n 3 (dP i))(b:∀x∈i,x.2.2.length<=800000000)(d:n<=1000000000):
  Calls Tryz.prog 141 #[A n c] v λe f=>e=.returned (.bool (i.all (λx=>He x.2.2)))/\Below v.heap.size v f:=by
 have g:=J (Bq 155 He (λ_ _=>enters_of Tryz.func155 (by kernel_rfl) rfl _ _) (λv t _=>Q7 v t) v A n c i a b d);clear a b d;go_enter Tryz.func141,Tryz.ntmps141
 go_wp2_with (go_at_call 133;refine g.mono ?_;rintro e f ⟨rfl,h⟩)
 go_ret
 exact⟨rfl,h⟩
theorem Q8 (A:Option Addr)(n c:Nat)(j:List P3)(a:i7 v 101 A n 3 (dP j))(b:∀x∈j,x.2.2.length<=800000000)(d:n<=1000000000):
  Calls Tryz.prog 98 #[A n c] v λe f=>e=.returned (.bool (j.all (λx=>og x.2.2)))/\Below v.heap.size v f:=by
 have g:=J (Bq 139 og (λ_ _=>enters_of Tryz.func139 (by kernel_rfl) rfl _ _) (λv t h=>Qc v t h) v A n c j a b d);clear a b d;go_enter Tryz.func98,Tryz.ntmps98
 go_wp2_with (go_at_call 133;refine g.mono ?_;rintro e f ⟨rfl,i⟩)
 go_ret
 exact⟨rfl,i⟩
section
open Go.Sort
theorem ME (n:Int):(nK n).length<=6:=by
 unfold nK pick;split
 .simp
 have:∀s∈opNames,s.length<=6:=by decide
 cases h:opNames[(n - 1).toNat]? with
 |none=>simp
 |some s=>exact this s (kj h)
theorem Cz (x:Ins)(h:x.a=0):dO x=nK x.op:=by simp[dO,h]
theorem Cy (x:Ins)(h:x.a≠0):dO x=nK x.op++58::ag x.a:=by simp[dO,h]
theorem AV (A:Option Addr)(c:Nat)(l:List Ins)(K:iN v)(L:Sl ky 2 v (FT v) A l)(V:l.length<=100000000000):
  Calls Tryz.prog 23 #[A l.length c] v (yt v (l.map dO)):=by
 go_enter Tryz.func23,Tryz.ntmps23
 go_wp2;go_loopw [3,9] (λw i wr=>∃k:Nat,k<=l.length/\i=.int .i64 k/\nv v ((l.take k).map dO) w wr) (λ_ i _=>l.length - (intOf i).toNat)
 case atStart=>exact⟨0,nz _,rfl,by simpa using nv.nil v⟩
 case round=>
  obtain⟨k,W,rfl,z,c3,rfl,d,f⟩:=hrel;have g:((l.take k).map dO).length=k:=by simp;omega
  by_cases B:k<l.length
  .obtain⟨b,o,x,rfl,-,C,X,Y,G,y⟩:=((KP.below f).sl ky.ok L).ins B;have H:=J (pJ dO l k x C);have D:=J g;generalize h:(l.take k).map dO=t at*
   have Z:=f.size;have u:t.length<=1000000000000:=by rw[D.out];omega
   have j:Below wr.heap.size wr (wr.alloc (.cells #[x.op,x.a] 60)):=(gD _ _).alloc (ae _) _;have m:iN (wr.alloc (.cells #[x.op,x.a] 60)):=(K.all f).all j;have I:=J (Qz _ x.op m);have O:=J (bi _ x.a m y);have p:=J j;have M:=ME x.op;have N:=wK y;by_cases n:x.a=0
   .have E:=J (Cz x n)
    have P:(x.a !=0)=false:=by simp[n]
    clear j C G y h g m n O;go_wp2_with (first
     |(go_at_call 15;refine I.mono ?_;rintro e Q ⟨rfl,rfl⟩)
     |(at_builtin;refine Pq rfl (.tmp 25) (.tmp 27) rfl _ (wr.heap.size+1) (World.size_alloc _ _) v.heap.size t.length c3 z (strs t) (nK x.op) rfl rfl (d.alloc _) u (by simp;omega) ?_;intro R S T q r))
    go_roundw
    case rel=>exact⟨k+1,by omega,by simp,nv.next f p d (us:=[nK x.op]) q r (by rw[H.out,E.out])⟩
    case measure=>simp[intOf];omega
   have E:=J (Cy x n)
   have P:(x.a !=0)=true:=by simp[n]
   have a1:(ByteArray.mk #[58])++⟨(ag x.a).toArray⟩=⟨(58::ag x.a).toArray⟩:=rZ [58] _;have a2:(ByteArray.mk (nK x.op).toArray)++⟨(58::ag x.a).toArray⟩=⟨(nK x.op++58::ag x.a).toArray⟩:=rZ _ _;clear j C G y h g m n;go_wp2_with (first
    |(go_at_call 15;refine I.mono ?_;rintro e Q ⟨rfl,rfl⟩)
    |(go_at_call 20;refine O.mono ?_;rintro e U ⟨rfl,F⟩;have s:Below wr.heap.size wr U:=p.trans (F.mono p.size);have s1:=s.size)
    |(at_builtin;refine kF rfl (.tmp 25) (.tmp 27) rfl _ v.heap.size t.length c3 z (strs t) (nK x.op++58::ag x.a) rfl rfl (gj d s) u (by omega) ?_;intro R S T q r))
   go_roundw
   case rel=>exact⟨k+1,by omega,by simp,nv.next f s d (us:=[nK x.op++58::ag x.a]) q r (by rw[H.out,E.out])⟩
   case measure=>simp[intOf];omega
  obtain rfl:k=l.length:=by omega
  have D:Hid ((l.take l.length).map dO=l.map dO):=by show _=_;rw[lf]
  generalize h:(l.take l.length).map dO=t at*
  clear h g;go_wp2;go_ret
  rw[<-D.out];exact⟨z,c3,rfl,d,f⟩
theorem Iv (a:List hU)(n:Int):lz a [n]=[dK a n]:=rfl
theorem PH (a:List hU)(l:List Int)(h:l.length≠1):lz a l=[91]::l.map (dK a)++[[93]]:=by
 unfold lz;split
 .simp at h
 rfl
theorem RN (f:α->List B)(l:List α)(k:Nat):((l.take k).flatMap f).length<=(l.flatMap f).length:=by
 conv=>rhs;rw[<-rA k l]
 simp only[rj,la];omega
theorem Io (f:α->List B)(l:List α)(k:Nat)(x:α)(h:l[k]?=some x):((l.take k).flatMap f).length+(f x).length<=(l.flatMap f).length:=by have:=RN f l (k+1);rw[cO f l k x h,la]at this;exact this
theorem JZ (g:Nat)(gs:List hU)(A:Option Addr)(c:Nat)(l:List (List Int))(P:iN v)(Q:PN v g gs)(z:gs.length<=1000000000000)(hA:Sl gT 1 v (FT v) A l)(hl:l.length<=100000000000)(H:(di gs l).length<=10000000000):
  Calls Tryz.prog 114 #[.pointer (g,0),A l.length c] v (yt v (di gs l)):=by
 go_enter Tryz.func114,Tryz.ntmps114
 go_wp2;go_loopw [5,10] (λw i wr=>∃k:Nat,k<=l.length/\i=.int .i64 k/\nv v ((l.take k).flatMap (lz gs)) w wr) (λ_ i _=>l.length - (intOf i).toNat)
 case atStart=>exact⟨0,nz _,rfl,by simpa using nv.nil v⟩
 case round=>
  obtain⟨k,hk,rfl,F,c3,rfl,a,d⟩:=hrel;by_cases I:k<l.length
  .obtain⟨b,o,x,A1,c1,rfl,-,G,R,B⟩:=hA.row I;have q0:=ah d R;have q:=(KP.below d).sl gS.ok B;have S:=J (cO (lz gs) l k x G);have h:=Io (lz gs) l k x G;have C:(l.flatMap (lz gs)).length<=10000000000:=H;generalize j:(l.take k).flatMap (lz gs)=f at*
   have s0:=d.size;by_cases D:x.length=1
   .obtain⟨n,rfl⟩:∃n,x=[n]:=by
     match x,D with
     |[n],_=>exact⟨n,rfl⟩
    obtain⟨b1,o1,y,rfl,-,T,q1,U⟩:=q.int (k:=0) (by simp);obtain rfl:n=y:=by have:=T.out;simpa using this
    rw[Nat.add_zero]at q1;have hn:=J (DJ wr g gs n (P.all d) U (Q.below d) z);have ad:f.length<=1000000000000:=by omega
    clear G j q D T U h C;simp only[aV,ln,mU]at q0;go_wp2_with (first
     |(go_at_call 25;refine hn.mono ?_;rintro e w1 ⟨rfl,r⟩;have s1:=r.size)
     |(at_builtin;refine kF rfl (.tmp 17) (.tmp 23) rfl w1 v.heap.size f.length c3 F (strs f) (dK gs n) rfl rfl (gj a r) ad (by omega) ?_;intro V W X m t))
    go_roundw
    case rel=>exact⟨k+1,by omega,by simp,nv.next d r a (us:=[dK gs n]) m t (by rw[S.out,Iv])⟩
    case measure=>simp[intOf];omega
   have Y:=J (PH gs x D);have aa:f.length+x.length+2<=10000000000:=by rw[Y.out]at h;simp only[la,aV,lE,ln]at h;omega
   have e2:((x.length:Int)==1)=false:=by simp;omega
   have K:pT v f f.length F c3 wr:=⟨rfl,a,d⟩
   clear G j h C D q R;go_wp2_with (first
    |(at_builtin;refine kF rfl (.tmp 25) (.tmp 26) rfl wr v.heap.size f.length c3 F (strs f) [91] rfl rfl a (by omega) (by omega) ?_;intro V W X m t;have E:=K.next (us:=[[91]]) (gD _ _) m t;have p:=E.2.2;have s2:=p.size)
    |(go_at_call 115;refine(TF X g gs A1 c1 x (P.all p) (Q.below p) z ((KP.below p).sl gS.ok B) (by omega)).mono ?_;rintro e Z ⟨A5,c5,rfl,L,u⟩;have s3:=u.size;have qP:=Ce L (lE (dK gs)))
    |(at_builtin;refine G8 rfl (.tmp 28) (.tmp 31) rfl Z v.heap.size (f.length+1) W V _ Z.heap.size A5 x.length c5 (x.map (dK gs)) rfl rfl (gj m u) qP (by omega) (by omega) ?_;intro A6 c6 w4 bW M;have Jg:=E.next (us:=x.map (dK gs)) u (by rw[DW];exact bW) M;have s4:=Jg.2.2.size)
    |(at_builtin;refine kF rfl (.tmp 33) (.tmp 34) rfl w4 v.heap.size _ c6 A6 _ [93] rfl rfl bW (by omega) (by omega) ?_;intro A7 c7 w5 AQ N;have O:=Jg.next (us:=[[93]]) (gD _ _) (by rw[DW,DW];exact AQ) N))
   go_roundw
   case rel=>exact⟨k+1,by omega,by simp,by rw[S.out,Y.out];simpa using O.s⟩
   case measure=>simp[intOf];omega
  obtain rfl:k=l.length:=by omega
  have HL:Hid ((l.take l.length).flatMap (lz gs)=di gs l):=by show _=_;rw[lf];rfl
  generalize j:(l.take l.length).flatMap (lz gs)=f at*
  clear j;go_wp2;go_ret
  rw[<-HL.out];exact⟨F,c3,rfl,a,d⟩
