/- unparse.Font of a font in memory. -/
import Derived.Test.YtkijckccfookeaaDoorUnI
import Derived.Test.YtkijckccfookeaaDoorMkRc
set_option linter.unusedVariables false
set_option linter.unusedSimpArgs false
set_option maxRecDepth 100000
set_option maxHeartbeats 32000000
namespace Go.Proofs.YtkijckccfookeaaDoor
section
open Go.RowKit
theorem AX (w:World)(f:Fnt)(fc:List Value)(hT:Tabs w)(hG:nG<=w.heap.size)(hf:afe w (FT w) fc f)(hS:∀g∈f.aeN,g.points.length<=1000000000/\g.ends.length<=1000000000)(hL:(gp f).length<=1000000000):
  Calls Tryd.prog 8 #[.agg fc.toArray] w fun e w'=>e= .returned (.string ⟨(gp f).toArray⟩)/\Below w.heap.size w w':=by
 obtain⟨A1,c1,A2,c2,A3,c3,A4,c4,A5,c5,A6,c6,A7,c7,A8,c8,rfl,r0,s1,s2,s3,s4,s5,s6,s7,s8⟩:=hf;exact CP w f A1 A2 A3 A4 A5 A6 A7 A8 c1 c2 c3 c4 c5 c6 c7 c8 hT hG r0 s1 s2 s3 s4 s5 s6 s7 s8 hS hL
end
section
open Go.RowKit Go.Shelf Go.Sort
def yG:Fnt:=⟨1000,[⟨[46,110,111,116,100,101,102],500,false,[],[],[],[],[],[]⟩],[],[⟨1,false,[⟨[],[[0]],[],[0],[],0⟩]⟩],[],[],[],[],[]⟩
def FB:Fnt:=⟨16,[],[],[],[],[],[],[[⟨1,5⟩,⟨2,0⟩]],[]⟩
theorem Zf:af 1000=[49,48,48,48]:=by simp[af,Lib.itoa,Lib.decDigits]
theorem ZB:af 500=[53,48,48]:=by simp[af,Lib.itoa,Lib.decDigits]
theorem ach:af 16=[49,54]:=by simp[af,Lib.itoa,Lib.decDigits]
theorem it5:af 5=[53]:=by simp[af,Lib.itoa,Lib.decDigits]
theorem JL:gp yG=[117,110,105,116,32,49,48,48,48,10,103,108,121,112,104,32,46,110,111,116,100,101,102,32,53,48,48,10,108,111,111,107,117,112,32,115,105,110,103,108,101,10,114,117,108,101,32,47,32,46,110,111,116,100,101,102,32,47,32,62,32,46,110,111,116,100,101,102,10]:=by simp[gp,yG,ax,dN,dn,dK,di,kU,vM,bi,setW,bM,outW,Zf,ZB];decide
theorem Jw:gp FB=[117,110,105,116,32,49,54,10,102,117,110,99,32,112,117,115,104,58,53,32,112,111,112,10]:=by simp[gp,FB,ax,dN,eP,bW,ach,it5];decide
def uj (w:World)(l:List Obj):World:=l.foldl World.alloc w
theorem xG (l:List Obj):∀w:World,Below w.heap.size w (uj w l):=by
 induction l with
 |nil=>intro w;exact agE _ _
 |cons o l ih=>intro w;exact((agE _ _).alloc (ai _) o).trans ((ih (w.alloc o)).mono (by simp))
theorem gQ (w:World)(l:List Obj)(k:Nat):(uj w l).heap[w.heap.size+k]? =l[k]? :=by
 induction l generalizing w k with
 |nil=>simp[uj]
 |cons o l ih=>
  show(uj (w.alloc o) l).heap[w.heap.size+k]? =_;cases k with
  |zero=>rw[(xG l (w.alloc o)).block _ (by simp)];exact heap_alloc_new w o
  |succ k=>have:=ih (w.alloc o) k;rw[World.size_alloc] at this;rw[show w.heap.size+(k+1)=w.heap.size+1+k by omega,this];rfl
theorem Sl.lit {α:Type}{R:Rel α}{w:World}{b:Nat}{t:TypeId}{cells:Array Value}{size:Nat}{xs:List α}(hb:Bk w b t cells)(h1:t≠5)(h2:t≠96)(hf:Fl R size w (FT w) cells.toList xs):Sl R size w (FT w) (some ⟨b,0,none⟩) xs:=⟨cells.toList,hf,fun _=>⟨b,0,rfl,Be hb h1 h2,fun j u hu=>by rw[ahh,hb.cell];simpa using hu⟩⟩
theorem MN:I64 0:=I64.small (by decide) (by decide)
theorem Nr (w:World)(hT:Tabs w)(hG:nG<=w.heap.size):Calls Tryd.prog 10 #[] w fun e w'=>e= .returned (.bool true)/\Below w.heap.size w w':=by
 go_enter Tryd.func10,Tryd.ntmps10
 go_wp2_with fail
 change Calls _ _ _ (uj w [.cells #[.string ⟨#[46,110,111,116,100,101,102]⟩,.int .i64 500,.bool false,.slice none 0 0,.slice none 0 0,.slice none 0 0,.slice none 0 0,.slice none 0 0,.slice none 0 0] 57,.cells #[.int .i64 0] 3,.cells #[.slice (some ⟨w.heap.size+1,0,none⟩) 1 1] 22,.cells #[.int .i64 0] 3,.cells #[.slice none 0 0,.slice (some ⟨w.heap.size+2,0,none⟩) 1 1,.slice none 0 0,.slice (some ⟨w.heap.size+3,0,none⟩) 1 1,.slice none 0 0,.int .i64 0] 78,.cells #[.int .i64 1,.bool false,.slice (some ⟨w.heap.size+4,0,none⟩) 1 1] 60,.cells #[.int .i64 1000,.slice (some ⟨w.heap.size,0,none⟩) 1 1,.slice none 0 0,.slice (some ⟨w.heap.size+5,0,none⟩) 1 1,.slice none 0 0,.slice none 0 0,.slice none 0 0,.slice none 0 0,.slice none 0 0] 32,.cells #[.int .i64 1,.int .i64 5,.int .i64 2,.int .i64 0] 72,.cells #[.slice (some ⟨w.heap.size+7,0,none⟩) 2 2] 55,.cells #[.int .i64 16,.slice none 0 0,.slice none 0 0,.slice none 0 0,.slice none 0 0,.slice none 0 0,.slice none 0 0,.slice (some ⟨w.heap.size+8,0,none⟩) 1 1,.slice none 0 0] 32]) _;obtain⟨W,hW⟩:∃W,uj w [.cells #[.string ⟨#[46,110,111,116,100,101,102]⟩,.int .i64 500,.bool false,.slice none 0 0,.slice none 0 0,.slice none 0 0,.slice none 0 0,.slice none 0 0,.slice none 0 0] 57,.cells #[.int .i64 0] 3,.cells #[.slice (some ⟨w.heap.size+1,0,none⟩) 1 1] 22,.cells #[.int .i64 0] 3,.cells #[.slice none 0 0,.slice (some ⟨w.heap.size+2,0,none⟩) 1 1,.slice none 0 0,.slice (some ⟨w.heap.size+3,0,none⟩) 1 1,.slice none 0 0,.int .i64 0] 78,.cells #[.int .i64 1,.bool false,.slice (some ⟨w.heap.size+4,0,none⟩) 1 1] 60,.cells #[.int .i64 1000,.slice (some ⟨w.heap.size,0,none⟩) 1 1,.slice none 0 0,.slice (some ⟨w.heap.size+5,0,none⟩) 1 1,.slice none 0 0,.slice none 0 0,.slice none 0 0,.slice none 0 0,.slice none 0 0] 32,.cells #[.int .i64 1,.int .i64 5,.int .i64 2,.int .i64 0] 72,.cells #[.slice (some ⟨w.heap.size+7,0,none⟩) 2 2] 55,.cells #[.int .i64 16,.slice none 0 0,.slice none 0 0,.slice none 0 0,.slice none 0 0,.slice none 0 0,.slice none 0 0,.slice (some ⟨w.heap.size+8,0,none⟩) 1 1,.slice none 0 0] 32]=W:=⟨_,rfl⟩
 rw[hW];have hbW:Below w.heap.size w W:=by rw[<-hW];exact xG _ _
 have K0:Bk W (w.heap.size+0) 57 #[.string ⟨#[46,110,111,116,100,101,102]⟩,.int .i64 500,.bool false,.slice none 0 0,.slice none 0 0,.slice none 0 0,.slice none 0 0,.slice none 0 0,.slice none 0 0]:=by rw[<-hW];exact gQ w _ 0
 have K1:Bk W (w.heap.size+1) 3 #[.int .i64 0]:=by rw[<-hW];exact gQ w _ 1
 have K2:Bk W (w.heap.size+2) 22 #[.slice (some ⟨w.heap.size+1,0,none⟩) 1 1]:=by rw[<-hW];exact gQ w _ 2
 have K3:Bk W (w.heap.size+3) 3 #[.int .i64 0]:=by rw[<-hW];exact gQ w _ 3
 have K4:Bk W (w.heap.size+4) 78 #[.slice none 0 0,.slice (some ⟨w.heap.size+2,0,none⟩) 1 1,.slice none 0 0,.slice (some ⟨w.heap.size+3,0,none⟩) 1 1,.slice none 0 0,.int .i64 0]:=by rw[<-hW];exact gQ w _ 4
 have K5:Bk W (w.heap.size+5) 60 #[.int .i64 1,.bool false,.slice (some ⟨w.heap.size+4,0,none⟩) 1 1]:=by rw[<-hW];exact gQ w _ 5
 have K6:Bk W (w.heap.size+6) 32 #[.int .i64 1000,.slice (some ⟨w.heap.size,0,none⟩) 1 1,.slice none 0 0,.slice (some ⟨w.heap.size+5,0,none⟩) 1 1,.slice none 0 0,.slice none 0 0,.slice none 0 0,.slice none 0 0,.slice none 0 0]:=by rw[<-hW];exact gQ w _ 6
 have K7:Bk W (w.heap.size+7) 72 #[.int .i64 1,.int .i64 5,.int .i64 2,.int .i64 0]:=by rw[<-hW];exact gQ w _ 7
 have K8:Bk W (w.heap.size+8) 55 #[.slice (some ⟨w.heap.size+7,0,none⟩) 2 2]:=by rw[<-hW];exact gQ w _ 8
 have K9:Bk W (w.heap.size+9) 32 #[.int .i64 16,.slice none 0 0,.slice none 0 0,.slice none 0 0,.slice none 0 0,.slice none 0 0,.slice none 0 0,.slice (some ⟨w.heap.size+8,0,none⟩) 1 1,.slice none 0 0]:=by rw[<-hW];exact gQ w _ 9
 have K0':Bk W w.heap.size 57 #[.string ⟨#[46,110,111,116,100,101,102]⟩,.int .i64 500,.bool false,.slice none 0 0,.slice none 0 0,.slice none 0 0,.slice none 0 0,.slice none 0 0,.slice none 0 0]:=K0;clear hW;have z0:=hbW.size;have hTW:=hT.all hbW;have hGW:nG<=W.heap.size:=nt hG z0;have S1:Sl aeU 9 W (FT W) (some ⟨w.heap.size,0,none⟩) yG.aeN:=Sl.lit K0' (by decide) (by decide) (Fl.one ⟨none,0,none,0,none,0,none,0,none,0,none,0,rfl,I64.small (by decide) (by decide),Sl.nil,Sl.nil,Sl.nil,Sl.nil,Sl.nil,Sl.nil⟩ rfl);have Si1:Sl aeQ 1 W (FT W) (some ⟨w.heap.size+1,0,none⟩) [0]:=Sl.lit K1 (by decide) (by decide) (Fl.one ⟨rfl,MN⟩ rfl);have Si2:Sl aeR 1 W (FT W) (some ⟨w.heap.size+2,0,none⟩) [[0]]:=Sl.lit K2 (by decide) (by decide) (Fl.one ⟨_,_,rfl,Si1⟩ rfl);have Si3:Sl aeQ 1 W (FT W) (some ⟨w.heap.size+3,0,none⟩) [0]:=Sl.lit K3 (by decide) (by decide) (Fl.one ⟨rfl,MN⟩ rfl);have Si4:Sl ae8 6 W (FT W) (some ⟨w.heap.size+4,0,none⟩) [⟨[],[[0]],[],[0],[],0⟩]:=Sl.lit K4 (by decide) (by decide) (Fl.one ⟨none,0,_,_,none,0,_,_,none,0,rfl,MN,Sl.nil,Si2,Sl.nil,Si3,Sl.nil⟩ rfl);have S3:Sl aeV 3 W (FT W) (some ⟨w.heap.size+5,0,none⟩) yG.aeO:=Sl.lit K5 (by decide) (by decide) (Fl.one ⟨_,_,rfl,I64.small (by decide) (by decide),Si4⟩ rfl);have Xh:∀g∈yG.aeN,g.points.length<=1000000000/\g.ends.length<=1000000000:=by decide
 have hf1:=CP W yG (some ⟨w.heap.size,0,none⟩) none (some ⟨w.heap.size+5,0,none⟩) none none none none none 1 0 1 0 0 0 0 0 hTW hGW (I64.small (by decide) (by decide)) S1 Sl.nil S3 Sl.nil Sl.nil Sl.nil Sl.nil Sl.nil Xh (by rw[JL];decide);rw[JL] at hf1;refine(show Calls _ _ _ _ _ from hf1).mono ?_;rintro e w1 ⟨rfl,hb1⟩;have WZ:=bt hbW hb1;have hT1:=hT.all WZ;have J7:=K7.below hb1;have J8:=K8.below hb1;have J9:=K9.below hb1;have z1:=hb1.size;have Sj7:Sl ae9 2 w1 (FT w1) (some ⟨w.heap.size+7,0,none⟩) [⟨1,5⟩,⟨2,0⟩]:=Sl.lit J7 (by decide) (by decide) ((Fl.one (R:=ae9) ⟨rfl,I64.small (by decide) (by decide),I64.small (by decide) (by decide)⟩ rfl).append (Fl.one ⟨rfl,I64.small (by decide) (by decide),MN⟩ rfl));have Sj8:Sl ae1 1 w1 (FT w1) (some ⟨w.heap.size+8,0,none⟩) FB.funcs:=Sl.lit J8 (by decide) (by decide) (Fl.one ⟨_,_,rfl,Sj7⟩ rfl);have hf2:=CP w1 FB none none none none none none (some ⟨w.heap.size+8,0,none⟩) none 0 0 0 0 0 0 1 0 hT1 (nt hGW z1) (I64.small (by decide) (by decide)) Sl.nil Sl.nil Sl.nil Sl.nil Sl.nil Sl.nil Sj8 Sl.nil (by decide) (by rw[Jw];decide);rw[Jw] at hf2;have Hf2:=hd0 hf2;have j0:w1.cell? ⟨w.heap.size+9,0,none⟩=some (.int .i64 16):=J9.cell 0;have j1:w1.cell? ⟨w.heap.size+9,1,none⟩=some (.slice none 0 0):=J9.cell 1;have j2:w1.cell? ⟨w.heap.size+9,2,none⟩=some (.slice none 0 0):=J9.cell 2;have j3:w1.cell? ⟨w.heap.size+9,3,none⟩=some (.slice none 0 0):=J9.cell 3;have j4:w1.cell? ⟨w.heap.size+9,4,none⟩=some (.slice none 0 0):=J9.cell 4;have j5:w1.cell? ⟨w.heap.size+9,5,none⟩=some (.slice none 0 0):=J9.cell 5;have j6:w1.cell? ⟨w.heap.size+9,6,none⟩=some (.slice none 0 0):=J9.cell 6;have j7:w1.cell? ⟨w.heap.size+9,7,none⟩=some (.slice (some ⟨w.heap.size+8,0,none⟩) 1 1):=J9.cell 7;have j8:w1.cell? ⟨w.heap.size+9,8,none⟩=some (.slice none 0 0):=J9.cell 8;have Ul:jG 39=[115,105,122,101]:=by decide
 have hop0:jG 0=[63]:=by decide
 have TP:jG 40=[63]:=by decide
 clear hf2 hf1 S1 Si1 Si2 Si3 Si4 S3 Xh Sj7 Sj8 J7 J8 J9 K0 K0' K1 K2 K3 K4 K5 K6 K7 K8 K9;have ZT:Hid (∀w,Tabs w->Calls Tryd.prog 13 #[.int .i64 39] w fun e w'=>e= .returned (.string ⟨#[115,105,122,101]⟩)/\w=w'):=fun w h=>by have:=FH w 39 h;rw[Ul] at this;exact this
 have aaR:Hid (∀w,Tabs w->Calls Tryd.prog 13 #[.int .i64 0] w fun e w'=>e= .returned (.string ⟨#[63]⟩)/\w=w'):=fun w h=>by have:=FH w 0 h;rw[hop0] at this;exact this
 have ZW:Hid (∀w,Tabs w->Calls Tryd.prog 13 #[.int .i64 40] w fun e w'=>e= .returned (.string ⟨#[63]⟩)/\w=w'):=fun w h=>by have:=FH w 40 h;rw[TP] at this;exact this
 clear Ul hop0 TP;go_wp2_with fail
 refine(show Calls _ _ _ _ _ from Hf2.out).mono ?_;rintro e w2 ⟨rfl,hb2⟩;have hbw2:=bt WZ hb2;have hT2:=hT.all hbw2;have Y5:True:=trivial;have tk0:True:=trivial;have YM:True:=trivial;go_wp2_with (first
  |(go_at_call 13;have _t:=Y5;refine(ZT.out _ hT2).mono ?_;rintro e w' ⟨rfl,rfl⟩;clear _t Y5)
  |(go_at_call 13;have _t:=tk0;refine(aaR.out _ hT2).mono ?_;rintro e w' ⟨rfl,rfl⟩;clear _t tk0)
  |(go_at_call 13;have _t:=YM;refine(ZW.out _ hT2).mono ?_;rintro e w' ⟨rfl,rfl⟩;clear _t YM))
 go_ret
 exact⟨rfl,hbw2⟩
end
section
open Go.RowKit
def dw (fs:Nat->Value)(j:Nat)(u:Value):Nat->Value:=fun i=>if i=j then u else fs i
theorem Dl (fs:Nat->Value)(j:Nat)(u v:Value):dw (dw fs j u) j v=dw fs j v:=by
 funext i
 unfold dw;split<;>rfl
theorem dH (fs:Nat->Value)(j:Nat)(u:Value):dw fs j u j=u:=if_pos rfl
theorem aI {fs:Nat->Value}{j i:Nat}{u:Value}(h:i≠j):dw fs j u i=fs i:=if_neg h
section
variable {w w2:World} {m:Nat} {fs:Nat->Value} {lp:Int}
theorem Mk.put (h:Mk w m fs lp)(j:Nat)(hj:j<9)(u:Value):Mk (w.setCell ⟨m,j+2,none⟩ u) m (dw fs j u) lp:=by
 have:j=0\/j=1\/j=2\/j=3\/j=4\/j=5\/j=6\/j=7\/j=8:=by omega
 rcases this with rfl|rfl|rfl|rfl|rfl|rfl|rfl|rfl|rfl<;>exact h.set _ u (fun A n c a=>by simp[mkV,dw])
theorem Mk.loops (h:Mk w m fs lp)(l:Int):Mk (w.setCell ⟨m,11,none⟩ (.int .i64 l)) m fs l:=h.set _ _ (fun A n c a=>by simp[mkV])
theorem Mk.bk (h:Mk w m fs lp):∃cs,Bk w m kw cs:=by obtain⟨A,n,c,a,zs,h1,-⟩:=h;exact⟨_,h1⟩
theorem Mk.sp (h:Mk w m fs lp)(j:Nat)(u:Value):Sp m kw w (w.setCell ⟨m,j,none⟩ u):=by obtain⟨cs,hb⟩:=h.bk;exact Sp.set hb (ai _) j u
theorem Mk.mvp (_h:Mk w m fs lp)(j:Nat)(u:Value):Mv m w (w.setCell ⟨m,j,none⟩ u):=bU (World.grownBy.refl _ _) (.inl rfl) u
theorem Mk.at' (h:Mk w m fs lp)(j:Nat)(hj:j<9){u:Value}(hu:fs j=u):w.cell? ⟨m,j+2,none⟩=some u:=by rw[h.cells.1 j hj,hu]
end
abbrev fD:TypeId:=60
abbrev En:List TypeId:=[bJ,aF,tRow,pI]
def QV (x:Int×Bool):List Value:=[.int .i64 x.1,.bool x.2,.slice none 0 0]
def pg (l:List (Int×Bool)):List Value:=l.flatMap QV
structure L1 (w:World)(m:Nat)(fs:Nat->Value)(lp:Int)(bs:List (Int×Bool))(A:Option Addr)(c:Nat)(ks:List Int)(Ac:Option Addr)(cc:Nat)(wr:World):Prop where
 mkr:Mk wr m (dw fs 3 (.slice A bs.length c)) lp
 row:wr.ownsRow w.heap.size fD 3 (.slice A bs.length c) bs.length (pg bs)
 cal:wr.ownsRow w.heap.size aF 1 (.slice Ac ks.length cc) ks.length (aN ks)
 mv:Mv m w wr
section
variable {w wr w2:World} {m:Nat} {fs:Nat->Value} {lp:Int} {bs:List (Int×Bool)} {A:Option Addr} {c:Nat} {ks:List Int} {Ac:Option Addr} {cc:Nat}
theorem L1.next (h:L1 w m fs lp bs A c ks Ac cc wr)(hm:Mk w2 m (dw fs 3 (.slice A bs.length c)) lp)(hv:Mv m wr w2):L1 w m fs lp bs A c ks Ac cc w2:=by have s:=Sp.next h.mkr hv;exact⟨hm,s.own h.row (by decide),s.own h.cal (by decide),eu h.mv hv⟩
theorem L1.below (h:L1 w m fs lp bs A c ks Ac cc wr)(hb:Below wr.heap.size wr w2):L1 w m fs lp bs A c ks Ac cc w2:=by have s:Sp m kw wr w2:=Sp.below hb;exact⟨h.mkr.below hb,s.own h.row (by decide),s.own h.cal (by decide),iW h.mv hb⟩
theorem L1.drew (h:L1 w m fs lp bs A c ks Ac cc wr):L1 w m fs lp bs A c ks Ac cc wr.drew:=h.below (agE _ _).drew
theorem L1.more (h:L1 w m fs lp bs A c ks Ac cc wr)(hmw:m<w.heap.size){n:Nat}(hn:bs.length=n)(hl:n<=1000)(k:Int)(b:Bool):
  ∃B d w9,(Builtin.append_ #[26,26] 26 #[.slice A n c,.slice (some ⟨wr.heap.size,0,none⟩) 1 1]).run Tryd.prog (wr.alloc (.cells #[.int .i64 k,.bool b,.slice none 0 0] fD))= .ok (.slice B (n+1) d) w9/\
   w9.cell? ⟨m,5,none⟩=some (.slice A n c)/\w9.frozen? ⟨m,5,none⟩=false/\m<w9.heap.size/\L1 w m fs lp (bs++[(k,b)]) B d ks Ac cc (w9.setCell ⟨m,5,none⟩ (.slice B (n+1) d)):=by
 subst hn;obtain⟨B,d,w9,hrun,dG,dA,rE⟩:=bQ Qj 26 wr w.heap.size _ c A _ #[.int .i64 k,.bool b,.slice none 0 0] rfl h.row (by simp[Value.oneCell']) (by omega) h.mv.size;have s:Sp m fD wr w9:=Sp.push h.row (by omega) dA;have mf:=s.mk h.mkr (by decide);have hn:(bs++[(k,b)]).length=bs.length+1:=by simp
 have ho:w9.ownsRow w.heap.size fD 3 (.slice B (bs++[(k,b)]).length d) (bs++[(k,b)]).length (pg (bs++[(k,b)])):=by rw[hn];simpa [pg,QV] using dG
 have s2:=mf.sp 5 (.slice B (bs.length+1) d);have IW:=mf.put 3 (by omega) (.slice B (bs.length+1) d);rw[Dl] at IW;refine⟨B,d,w9,hrun,mf.at' 3 (by omega) (dH _ _ _),mf.frozen 5,mf.lt,by rw[hn];exact IW,s2.own ho (by decide),s2.own (s.own h.cal (by decide)) (by decide),eu (jl h.mv h.row (ai _) dA) (mf.mvp 5 _)⟩
theorem L1.call (h:L1 w m fs lp bs A c ks Ac cc wr)(hmw:m<w.heap.size){B:Option Addr}{d:Nat}{x:Int}(ho:w2.ownsRow w.heap.size aF 1 (.slice B (ks.length+1) d) (ks.length+1) (aN ks++[.int .i64 x]))(hg:wr.grownBy w2 (Value.slice Ac ks.length cc).ownBlock):L1 w m fs lp bs A c (ks++[x]) B d w2:=by
 have s:Sp m aF wr w2:=Sp.push h.cal (by omega) hg;have hn:(ks++[x]).length=ks.length+1:=by simp
 refine⟨s.mk h.mkr (by decide),s.own h.row (by decide),?_,jl h.mv h.cal (ai _) hg⟩;rw[hn];simpa [aN,cI] using ho
end
structure L2 (w:World)(m:Nat)(fs:Nat->Value)(lp:Int)(n:Nat)(A:Option Addr)(c:Nat)(dc:List Value)(ls:List Lookup)(mid:List Value)(rest:List (Int×Bool))(ks:List Int)(Ac:Option Addr)(cc:Nat)(top:Nat)(wr:World):Prop where
 mkr:Mk wr m (dw fs 3 (.slice A n c)) lp
 row:wr.ownsRow w.heap.size fD 3 (.slice A n c) n (dc++(mid++pg rest))
 done:Fl aeV 3 wr (TR En w.heap.size top wr) dc ls
 cal:wr.ownsRow w.heap.size aF 1 (.slice Ac ks.length cc) ks.length (aN ks)
 mv:Mv m w wr
 top:w.heap.size<=top/\top<=wr.heap.size
section
variable {w wr w2:World} {m:Nat} {fs:Nat->Value} {lp:Int} {n:Nat} {A:Option Addr} {c:Nat} {dc:List Value} {ls:List Lookup} {mid:List Value} {rest:List (Int×Bool)} {ks:List Int} {Ac:Option Addr} {cc top:Nat}
theorem L1.two {bs:List (Int×Bool)}(h:L1 w m fs lp bs A c ks Ac cc wr):L2 w m fs lp bs.length A c [] [] [] bs ks Ac cc wr.heap.size wr:=⟨h.mkr,by simpa using h.row,Fl.nil,h.cal,h.mv,h.mv.size,ai _⟩
theorem L2.next (h:L2 w m fs lp n A c dc ls mid rest ks Ac cc top wr)(hmw:m<w.heap.size)(hm:Mk w2 m (dw fs 3 (.slice A n c)) lp)(hv:Mv m wr w2):L2 w m fs lp n A c dc ls mid rest ks Ac cc top w2:=by have s:=Sp.next h.mkr hv;have hz:=hv.size;exact⟨hm,s.own h.row (by decide),h.done.moved aeV.ok (TR.step hv (fun x hx=>by injection hx with hx;exact .inl (by omega))),s.own h.cal (by decide),eu h.mv hv,h.top.1,nt h.top.2 hz⟩
theorem L2.below (h:L2 w m fs lp n A c dc ls mid rest ks Ac cc top wr)(hb:Below wr.heap.size wr w2):L2 w m fs lp n A c dc ls mid rest ks Ac cc top w2:=by have s:Sp m kw wr w2:=Sp.below hb;exact⟨h.mkr.below hb,s.own h.row (by decide),h.done.moved aeV.ok (TR.step (dm hb none) (fun x hx=>by cases hx)),s.own h.cal (by decide),iW h.mv hb,h.top.1,nt h.top.2 hb.size⟩
theorem L2.drew (h:L2 w m fs lp n A c dc ls mid rest ks Ac cc top wr):L2 w m fs lp n A c dc ls mid rest ks Ac cc top wr.drew:=h.below (agE _ _).drew
theorem L2.calls (h:L2 w m fs lp n A c dc ls mid rest ks Ac cc top wr)(hk:∀x∈ks,I64 x):Sl aeQ 1 wr (TR [aF] w.heap.size wr.heap.size wr) Ac ks:=uD h.cal (iF _ _ ks hk) (by simp) (ai _) (by omega)
theorem L2.head {k:Int}{b:Bool}{r:List (Int×Bool)}(h:L2 w m fs lp n A c dc ls [] ((k,b)::r) ks Ac cc top wr):L2 w m fs lp n A c dc ls [.int .i64 k,.bool b,.slice none 0 0] r ks Ac cc top wr:=by refine⟨h.mkr,?_,h.done,h.cal,h.mv,h.top⟩;have:=h.row;simpa [pg,QV] using this
theorem L2.cells {k:Int}{b:Bool}{v:Value}(h:L2 w m fs lp n A c dc ls [.int .i64 k,.bool b,v] rest ks Ac cc top wr):∃g,A=some ⟨g,0,none⟩/\g<wr.heap.size/\wr.cell? ⟨g,ls.length*3,none⟩=some (.int .i64 k)/\wr.cell? ⟨g,ls.length*3+1,none⟩=some (.bool b)/\wr.cell? ⟨g,ls.length*3+2,none⟩=some v/\(∀j,wr.frozen? ⟨g,j,none⟩=false)/\ls.length<n/\w.heap.size<=g:=by
 have hr:=h.row;have hl:=hr.1;have hd:=h.done.1;simp only[la,aV,ln,hd] at hl;have hn:ls.length<n:=by omega
 obtain⟨g,rfl⟩:∃g,A=some ⟨g,0,none⟩:=by
  rcases hr.2 with⟨-,h2⟩|⟨g,cap,cur,h1,-⟩
  ·omega
  simp only[ahr,true_and] at h1;exact⟨g,h1.1⟩
 have hlt:=hr.lt g rfl;have hat:∀j (u:Value),(dc++([.int .i64 k,.bool b,v]++pg rest))[j]? =some u->wr.cell? ⟨g,j,none⟩=some u:=fun j u hu=>by
  have:=hr.cells (g:=g) rfl j u hu
  rwa [addr_add,ahh] at this
 refine⟨g,rfl,hlt.2,hat _ _ ?_,hat _ _ ?_,hat _ _ ?_,fun j=>hr.frozenAt j,hn,hlt.1⟩
 ·rw[agZ (by omega),hd,Nat.sub_self];rfl
 ·rw[agZ (by omega),hd,show ls.length*3+1 - ls.length*3=1 by omega];rfl
 rw[agZ (by omega),hd,show ls.length*3+2 - ls.length*3=2 by omega];rfl
theorem L2.at' {k:Int}{b:Bool}{v:Value}{g:Nat}(h:L2 w m fs lp n (some ⟨g,0,none⟩) c dc ls [.int .i64 k,.bool b,v] rest ks Ac cc top wr):wr.cell? ⟨g,ls.length*3,none⟩=some (.int .i64 k)/\wr.cell? ⟨g,ls.length*3+2,none⟩=some v/\g<wr.heap.size:=by
 obtain⟨g',hg',hgz,e0,-,e2,-,-,-⟩:=h.cells;have e:g'=g:=by simpa using hg'.symm
 subst e;exact⟨e0,e2,hgz⟩
theorem L2.skip {k:Int}{b:Bool}(h:L2 w m fs lp n A c dc ls [.int .i64 k,.bool b,.slice none 0 0] rest ks Ac cc top wr)(hk:I64 k):L2 w m fs lp n A c (dc++[.int .i64 k,.bool b,.slice none 0 0]) (ls++[⟨k,b,[]⟩]) [] rest ks Ac cc top wr:=by refine⟨h.mkr,?_,h.done.append (Fl.one ⟨none,0,rfl,hk,Sl.nil⟩ rfl),h.cal,h.mv,h.top⟩;have:=h.row;simpa using this
end
structure L3 (w:World)(m:Nat)(fs:Nat->Value)(lp:Int)(n:Nat)(A:Option Addr)(c:Nat)(dc:List Value)(ls:List Lookup)(k:Int)(b:Bool)(rs:List ae4)(Ar:Option Addr)(cr:Nat)(rc:List Value)(rest:List (Int×Bool))(ks:List Int)(Ac:Option Addr)(cc:Nat)(top hi:Nat)(wr:World):Prop where
 two:L2 w m fs lp n A c dc ls [.int .i64 k,.bool b,.slice Ar rs.length cr] rest ks Ac cc top wr
 afN:wr.ownsRow top bJ 6 (.slice Ar rs.length cr) rs.length rc
 rfl':Fl ae8 6 wr (TR gX top hi wr) rc rs
 hi':top<=hi/\hi<=wr.heap.size
section
variable {w wr w2:World} {m:Nat} {fs:Nat->Value} {lp:Int} {n:Nat} {A:Option Addr} {c:Nat} {dc:List Value} {ls:List Lookup} {k:Int} {b:Bool} {rs:List ae4} {Ar:Option Addr} {cr:Nat} {rc:List Value} {rest:List (Int×Bool)} {ks:List Int} {Ac:Option Addr} {cc top hi:Nat}
theorem L2.three (h:L2 w m fs lp n A c dc ls [.int .i64 k,.bool b,.slice none 0 0] rest ks Ac cc top wr):L3 w m fs lp n A c dc ls k b [] none 0 [] rest ks Ac cc wr.heap.size wr.heap.size wr:=⟨⟨h.mkr,h.row,h.done.mono aeV.ok (TR.sub (fun _ h=>h) (ai _) h.top.2),h.cal,h.mv,nt h.top.1 h.top.2,ai _⟩,World.ownsRow_nil _ _ _ _,Fl.nil,ai _,ai _⟩
theorem L3.next (h:L3 w m fs lp n A c dc ls k b rs Ar cr rc rest ks Ac cc top hi wr)(hmw:m<w.heap.size)(hm:Mk w2 m (dw fs 3 (.slice A n c)) lp)(hv:Mv m wr w2):L3 w m fs lp n A c dc ls k b rs Ar cr rc rest ks Ac cc top hi w2:=by have s:=Sp.next h.two.mkr hv;have ht:=h.two.top;exact⟨h.two.next hmw hm hv,s.own h.afN (by decide),h.rfl'.moved ae8.ok (TR.step hv (fun x hx=>by injection hx with hx;exact .inl (by omega))),h.hi'.1,nt h.hi'.2 hv.size⟩
theorem L3.drew (h:L3 w m fs lp n A c dc ls k b rs Ar cr rc rest ks Ac cc top hi wr):L3 w m fs lp n A c dc ls k b rs Ar cr rc rest ks Ac cc top hi wr.drew:=⟨h.two.drew,h.afN,h.rfl',h.hi'⟩
theorem L3.more (h:L3 w m fs lp n A c dc ls k b rs Ar cr rc rest ks Ac cc top hi wr)(hmw:m<w.heap.size){nr:Nat}(hnr:rs.length=nr)(hl:nr<=1000){g:Nat}(hA:A=some ⟨g,0,none⟩){lo:Nat}(hlo:top<=lo)(r:ae4){B0 B1 B2 B3 B4:Option Addr}{d0 d1 d2 d3 d4:Nat}(hx:I64 r.x)
  (s0:Sl aeR 1 wr (TS gX lo wr) B0 r.back) (s1:Sl aeR 1 wr (TS gX lo wr) B1 r.in') (s2:Sl aeR 1 wr (TS gX lo wr) B2 r.ahead) (s3:Sl aeQ 1 wr (TS gX lo wr) B3 r.out) (s4:Sl aff 2 wr (TS gX lo wr) B4 r.calls):
  ∃B d w9 rc',(Builtin.append_ #[58,58] 58 #[.slice Ar nr cr,.slice (some ⟨wr.heap.size,0,none⟩) 1 1]).run Tryd.prog (wr.alloc (.cells #[.slice B0 r.back.length d0,.slice B1 r.in'.length d1,.slice B2 r.ahead.length d2,.slice B3 r.out.length d3,.slice B4 r.calls.length d4,.int .i64 r.x] bJ))= .ok (.slice B (nr+1) d) w9/\
   w9.cell? ⟨m,5,none⟩=some (.slice A n c)/\w9.cell? ⟨g,ls.length*3,none⟩=some (.int .i64 k)/\w9.cell? ⟨g,ls.length*3+2,none⟩=some (.slice Ar nr cr)/\w9.frozen? ⟨g,ls.length*3+2,none⟩=false/\g<w9.heap.size/\L3 w m fs lp n A c dc ls k b (rs++[r]) B d rc' rest ks Ac cc top wr.heap.size (w9.setCell ⟨g,ls.length*3+2,none⟩ (.slice B (nr+1) d)):=by
 subst hnr;have ht:=h.two.top;obtain⟨B,d,w9,hrun,dG,dA,rE⟩:=bQ wU 58 wr top _ cr Ar _ #[.slice B0 r.back.length d0,.slice B1 r.in'.length d1,.slice B2 r.ahead.length d2,.slice B3 r.out.length d3,.slice B4 r.calls.length d4,.int .i64 r.x] rfl h.afN (by simp[Value.oneCell']) (by omega) ht.2;have s:Sp m bJ wr w9:=Sp.push h.afN (by omega) dA;have PX:=dA.size;have two9:L2 w m fs lp n A c dc ls [.int .i64 k,.bool b,.slice Ar rs.length cr] rest ks Ac cc top w9:=⟨s.mk h.two.mkr (by decide),s.own h.two.row (by decide),h.two.done.moved aeV.ok (TR.step dA (fun x hx=> .inr (h.afN.lt x hx).1)),s.own h.two.cal (by decide),jl h.two.mv h.afN (by omega) dA,ht.1,by omega⟩
 obtain⟨g',hg',hgl,e0,e1,e2,ef,hn,hgw⟩:=two9.cells;have eg:g=g':=by have:=hA.symm.trans hg';simpa using this
 subst eg;have hn2:(rs++[r]).length=rs.length+1:=by simp
 have one:Fl ae8 6 wr (TR gX top wr.heap.size wr) [.slice B0 r.back.length d0,.slice B1 r.in'.length d1,.slice B2 r.ahead.length d2,.slice B3 r.out.length d3,.slice B4 r.calls.length d4,.int .i64 r.x] [r]:=Fl.one ⟨B0,d0,B1,d1,B2,d2,B3,d3,B4,d4,rfl,hx,s0.mono aeR.ok (TR.afT hlo),s1.mono aeR.ok (TR.afT hlo),s2.mono aeR.ok (TR.afT hlo),s3.mono aeQ.ok (TR.afT hlo),s4.mono aff.ok (TR.afT hlo)⟩ rfl;have all:=(h.rfl'.mono ae8.ok (TR.sub (fun _ h=>h) (ai _) h.hi'.2)).append one;have Qm:Fl ae8 6 w9 (TR gX top wr.heap.size w9) _ (rs++[r]):=all.moved ae8.ok (by
  have key:∀b,TR gX top wr.heap.size wr b->w9.heap[b]? =wr.heap[b]? :=fun b ⟨h1,cs,t,hk,htt⟩=>dA.block b hk.lt (fun e=>by
   obtain⟨cur,hb⟩:=gW h.afN b e.symm;have:=(jM hb hk).1;subst this;exact absurd htt (by decide))
  exact⟨key,fun b hb=>by
   obtain⟨h1,cs,t,hk,htt⟩:=hb;exact⟨h1,cs,t,(key b ⟨h1,cs,t,hk,htt⟩).trans hk,htt⟩⟩)
 obtain⟨cs,hbk⟩:∃cs,Bk w9 g fD cs:=by obtain⟨cur,hk⟩:=gW two9.row g (by rw[hA];rfl);exact⟨_,hk⟩
 have s2':Sp m fD w9 (w9.setCell ⟨g,ls.length*3+2,none⟩ (.slice B (rs.length+1) d)):=Sp.set hbk (by omega) _ _;have hgr:w9.grownBy (w9.setCell ⟨g,ls.length*3+2,none⟩ (.slice B (rs.length+1) d)) (some g):=bU (World.grownBy.refl _ _) (.inl rfl) _;have hrow:=two9.row;rw[hA] at hrow;have hst:=(hrow.stored (ls.length*3+2) (.slice B (rs.length+1) d)).1;have hset:(dc++([Value.int .i64 k,.bool b,.slice Ar rs.length cr]++pg rest)).set (ls.length*3+2) (.slice B (rs.length+1) d)=dc++([Value.int .i64 k,.bool b,.slice B (rs.length+1) d]++pg rest):=by rw[List.set_append_right _ _ (by rw[two9.done.1];omega),two9.done.1,show ls.length*3+2 - ls.length*3=2 by omega];rfl
 have tl:∀(ts:List TypeId) (lo hi:Nat),fD ∉ ts->Same (TR ts lo hi w9) w9 (w9.setCell ⟨g,ls.length*3+2,none⟩ (.slice B (rs.length+1) d))/\∀b,TR ts lo hi w9 b->TR ts lo hi (w9.setCell ⟨g,ls.length*3+2,none⟩ (.slice B (rs.length+1) d)) b:=fun ts lo hi hts=>by
  have key:∀b,TR ts lo hi w9 b->(w9.setCell ⟨g,ls.length*3+2,none⟩ (.slice B (rs.length+1) d)).heap[b]? =w9.heap[b]? :=fun b' ⟨h1,cs',t,hk,htt⟩=>hgr.block b' hk.lt (fun e=>by
   injection e with e
   subst e;have:=(jM hbk hk).1;subst this;exact hts htt)
  exact⟨key,fun b' hb=>by
   obtain⟨h1,cs',t,hk,htt⟩:=hb;exact⟨h1,cs',t,(key b' ⟨h1,cs',t,hk,htt⟩).trans hk,htt⟩⟩
 refine⟨B,d,w9,_,hrun,two9.mkr.at' 3 (by omega) (dH _ _ _),e0,e2,ef _,hgl,⟨s2'.mk two9.mkr (by decide),?_,two9.done.moved aeV.ok (tl En _ _ (by decide)),s2'.own two9.cal (by decide),qC two9.mv hgw _ _,ht.1,by simpa using two9.top.2⟩,?_,Qm.moved ae8.ok (tl gX _ _ (by decide)),ht.2,by simpa using PX⟩
 ·rw[hset] at hst;rw[hn2,hA];exact hst
 rw[hn2];exact s2'.own dG (by decide)
theorem L3.fin (h:L3 w m fs lp n A c dc ls k b rs Ar cr rc rest ks Ac cc top hi wr)(hk:I64 k):L2 w m fs lp n A c (dc++[.int .i64 k,.bool b,.slice Ar rs.length cr]) (ls++[⟨k,b,rs⟩]) [] rest ks Ac cc wr.heap.size wr:=by have ht:=h.two.top;have sl:Sl ae8 6 wr (TR En w.heap.size wr.heap.size wr) Ar rs:=uD h.afN (h.rfl'.mono ae8.ok (TR.sub (by decide) ht.1 h.hi'.2)) (by decide) ht.1 (by omega);refine⟨h.two.mkr,?_,(h.two.done.mono aeV.ok (TR.sub (fun _ h=>h) (ai _) ht.2)).append (Fl.one ⟨Ar,cr,rfl,hk,sl⟩ rfl),h.two.cal,h.two.mv,nt ht.1 ht.2,ai _⟩;have:=h.two.row;simpa using this
end
theorem L2.fin {w wr:World}{m:Nat}{fs:Nat->Value}{lp:Int}{n:Nat}{A:Option Addr}{c:Nat}{dc:List Value}{ls:List Lookup}{ks:List Int}{Ac:Option Addr}{cc top:Nat}(h:L2 w m fs lp n A c dc ls [] [] ks Ac cc top wr):ls.length=n/\Sl aeV 3 wr (TR (fD::En) w.heap.size wr.heap.size wr) A ls:=by
 have hl:=h.row.1;have hd:=h.done.1;simp only[ag8,pg,ahj,la,ln,hd] at hl;have hn:ls.length=n:=by omega
 refine⟨hn,?_⟩;subst hn;have hr:=h.row;simp only[ag8,pg,ahj] at hr;exact uD hr (h.done.mono aeV.ok (TR.sub (by decide) (ai _) h.top.2)) (by decide) (ai _) (by omega)
end
end Go.Proofs.YtkijckccfookeaaDoor
