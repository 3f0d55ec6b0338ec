/- unparse.Font of a font in memory. -/
import Derived.Test.YtkijckccfookeaaDoorUnI
import Derived.Test.YtkijckccfookeaaDoorMkRc
set_option linter.unusedVariables false
set_option linter.unusedSimpArgs false
set_option maxRecDepth 100000
set_option maxHeartbeats 32000000
namespace Go.Proofs.YtkijckccfookeaaDoor
section
open Go.RowKit
theorem CP (w:World)(f:Fnt)(fc:List Value)(hT:Tabs w)(hG:nG<=w.heap.size)(hf:aab w (FT w) fc f)(hS:∀g∈f.Zt,g.points.length<=1000000000/\g.ends.length<=1000000000)(hL:(fC f).length<=1000000000):
  Calls Tryd.prog 8 #[.agg fc.toArray] w fun e w'=>e= .returned (.string ⟨(fC f).toArray⟩)/\Below w.heap.size w w':=by
 obtain⟨A1,c1,A2,c2,A3,c3,A4,c4,A5,c5,A6,c6,A7,c7,A8,c8,rfl,r0,s1,s2,s3,s4,s5,s6,s7,s8⟩:=hf;exact vP w f A1 A2 A3 A4 A5 A6 A7 A8 c1 c2 c3 c4 c5 c6 c7 c8 hT hG r0 s1 s2 s3 s4 s5 s6 s7 s8 hS hL
end
section
open Go.RowKit Go.Shelf Go.Sort
def qJ:Fnt:=⟨1000,[⟨[46,110,111,116,100,101,102],500,false,[],[],[],[],[],[]⟩],[],[⟨1,false,[⟨[],[[0]],[],[0],[],0⟩]⟩],[],[],[],[],[]⟩
def xX:Fnt:=⟨16,[],[],[],[],[],[],[[⟨1,5⟩,⟨2,0⟩]],[]⟩
theorem Qw:af 1000=[49,48,48,48]:=by simp[af,Lib.itoa,Lib.decDigits]
theorem QY:af 500=[53,48,48]:=by simp[af,Lib.itoa,Lib.decDigits]
theorem Uf:af 16=[49,54]:=by simp[af,Lib.itoa,Lib.decDigits]
theorem VO:af 5=[53]:=by simp[af,Lib.itoa,Lib.decDigits]
theorem Bj:fC qJ=[117,110,105,116,32,49,48,48,48,10,103,108,121,112,104,32,46,110,111,116,100,101,102,32,53,48,48,10,108,111,111,107,117,112,32,115,105,110,103,108,101,10,114,117,108,101,32,47,32,46,110,111,116,100,101,102,32,47,32,62,32,46,110,111,116,100,101,102,10]:=by simp[fC,qJ,ai,bK,bi,bz,bf,gK,nP,aQ,setW,aT,outW,Qw,QY];decide
theorem Bv:fC xX=[117,110,105,116,32,49,54,10,102,117,110,99,32,112,117,115,104,58,53,32,112,111,112,10]:=by simp[fC,xX,ai,bK,df,aX,Uf,VO];decide
def mO (w:World)(l:List Obj):World:=l.foldl World.alloc w
theorem pJ (l:List Obj):∀w:World,Below w.heap.size w (mO w l):=by
 induction l with
 |nil=>intro w;exact aa0 _ _
 |cons o l ih=>intro w;exact((aa0 _ _).alloc (ag _) o).trans ((ih (w.alloc o)).mono (by simp))
theorem dJ (w:World)(l:List Obj)(k:Nat):(mO w l).heap[w.heap.size+k]? =l[k]? :=by
 induction l generalizing w k with
 |nil=>simp[mO]
 |cons o l ih=>
  show(mO (w.alloc o) l).heap[w.heap.size+k]? =_;cases k with
  |zero=>rw[(pJ l (w.alloc o)).block _ (by simp)];exact heap_alloc_new w o
  |succ k=>have:=ih (w.alloc o) k;rw[World.size_alloc] at this;rw[show w.heap.size+(k+1)=w.heap.size+1+k by omega,this];rfl
theorem Sl.lit {α:Type}{R:ZL α}{w:World}{b:Nat}{t:TypeId}{cells:Array Value}{size:Nat}{xs:List α}(hb:Bk w b t cells)(h1:t≠5)(h2:t≠96)(hf:Fl R size w (FT w) cells.toList xs):Sl R size w (FT w) (some ⟨b,0,none⟩) xs:=⟨cells.toList,hf,fun _=>⟨b,0,rfl,tN hb h1 h2,fun j u hu=>by rw[abI,hb.cell];simpa using hu⟩⟩
theorem Dz:I64 0:=I64.small (by decide) (by decide)
theorem DW (w:World)(hT:Tabs w)(hG:nG<=w.heap.size):Calls Tryd.prog 10 #[] w fun e w'=>e= .returned (.bool true)/\Below w.heap.size w w':=by
 go_enter Tryd.func10,Tryd.ntmps10
 go_wp2_with fail
 change Calls _ _ _ (mO w [.cells #[.string ⟨#[46,110,111,116,100,101,102]⟩,.int .i64 500,.bool false,.slice none 0 0,.slice none 0 0,.slice none 0 0,.slice none 0 0,.slice none 0 0,.slice none 0 0] 57,.cells #[.int .i64 0] 3,.cells #[.slice (some ⟨w.heap.size+1,0,none⟩) 1 1] 22,.cells #[.int .i64 0] 3,.cells #[.slice none 0 0,.slice (some ⟨w.heap.size+2,0,none⟩) 1 1,.slice none 0 0,.slice (some ⟨w.heap.size+3,0,none⟩) 1 1,.slice none 0 0,.int .i64 0] 78,.cells #[.int .i64 1,.bool false,.slice (some ⟨w.heap.size+4,0,none⟩) 1 1] 60,.cells #[.int .i64 1000,.slice (some ⟨w.heap.size,0,none⟩) 1 1,.slice none 0 0,.slice (some ⟨w.heap.size+5,0,none⟩) 1 1,.slice none 0 0,.slice none 0 0,.slice none 0 0,.slice none 0 0,.slice none 0 0] 32,.cells #[.int .i64 1,.int .i64 5,.int .i64 2,.int .i64 0] 72,.cells #[.slice (some ⟨w.heap.size+7,0,none⟩) 2 2] 55,.cells #[.int .i64 16,.slice none 0 0,.slice none 0 0,.slice none 0 0,.slice none 0 0,.slice none 0 0,.slice none 0 0,.slice (some ⟨w.heap.size+8,0,none⟩) 1 1,.slice none 0 0] 32]) _;obtain⟨W,hW⟩:∃W,mO w [.cells #[.string ⟨#[46,110,111,116,100,101,102]⟩,.int .i64 500,.bool false,.slice none 0 0,.slice none 0 0,.slice none 0 0,.slice none 0 0,.slice none 0 0,.slice none 0 0] 57,.cells #[.int .i64 0] 3,.cells #[.slice (some ⟨w.heap.size+1,0,none⟩) 1 1] 22,.cells #[.int .i64 0] 3,.cells #[.slice none 0 0,.slice (some ⟨w.heap.size+2,0,none⟩) 1 1,.slice none 0 0,.slice (some ⟨w.heap.size+3,0,none⟩) 1 1,.slice none 0 0,.int .i64 0] 78,.cells #[.int .i64 1,.bool false,.slice (some ⟨w.heap.size+4,0,none⟩) 1 1] 60,.cells #[.int .i64 1000,.slice (some ⟨w.heap.size,0,none⟩) 1 1,.slice none 0 0,.slice (some ⟨w.heap.size+5,0,none⟩) 1 1,.slice none 0 0,.slice none 0 0,.slice none 0 0,.slice none 0 0,.slice none 0 0] 32,.cells #[.int .i64 1,.int .i64 5,.int .i64 2,.int .i64 0] 72,.cells #[.slice (some ⟨w.heap.size+7,0,none⟩) 2 2] 55,.cells #[.int .i64 16,.slice none 0 0,.slice none 0 0,.slice none 0 0,.slice none 0 0,.slice none 0 0,.slice none 0 0,.slice (some ⟨w.heap.size+8,0,none⟩) 1 1,.slice none 0 0] 32]=W:=⟨_,rfl⟩
 rw[hW];have hbW:Below w.heap.size w W:=by rw[<-hW];exact pJ _ _
 have K0:Bk W (w.heap.size+0) 57 #[.string ⟨#[46,110,111,116,100,101,102]⟩,.int .i64 500,.bool false,.slice none 0 0,.slice none 0 0,.slice none 0 0,.slice none 0 0,.slice none 0 0,.slice none 0 0]:=by rw[<-hW];exact dJ w _ 0
 have K1:Bk W (w.heap.size+1) 3 #[.int .i64 0]:=by rw[<-hW];exact dJ w _ 1
 have K2:Bk W (w.heap.size+2) 22 #[.slice (some ⟨w.heap.size+1,0,none⟩) 1 1]:=by rw[<-hW];exact dJ w _ 2
 have K3:Bk W (w.heap.size+3) 3 #[.int .i64 0]:=by rw[<-hW];exact dJ w _ 3
 have K4:Bk W (w.heap.size+4) 78 #[.slice none 0 0,.slice (some ⟨w.heap.size+2,0,none⟩) 1 1,.slice none 0 0,.slice (some ⟨w.heap.size+3,0,none⟩) 1 1,.slice none 0 0,.int .i64 0]:=by rw[<-hW];exact dJ w _ 4
 have K5:Bk W (w.heap.size+5) 60 #[.int .i64 1,.bool false,.slice (some ⟨w.heap.size+4,0,none⟩) 1 1]:=by rw[<-hW];exact dJ w _ 5
 have K6:Bk W (w.heap.size+6) 32 #[.int .i64 1000,.slice (some ⟨w.heap.size,0,none⟩) 1 1,.slice none 0 0,.slice (some ⟨w.heap.size+5,0,none⟩) 1 1,.slice none 0 0,.slice none 0 0,.slice none 0 0,.slice none 0 0,.slice none 0 0]:=by rw[<-hW];exact dJ w _ 6
 have K7:Bk W (w.heap.size+7) 72 #[.int .i64 1,.int .i64 5,.int .i64 2,.int .i64 0]:=by rw[<-hW];exact dJ w _ 7
 have K8:Bk W (w.heap.size+8) 55 #[.slice (some ⟨w.heap.size+7,0,none⟩) 2 2]:=by rw[<-hW];exact dJ w _ 8
 have K9:Bk W (w.heap.size+9) 32 #[.int .i64 16,.slice none 0 0,.slice none 0 0,.slice none 0 0,.slice none 0 0,.slice none 0 0,.slice none 0 0,.slice (some ⟨w.heap.size+8,0,none⟩) 1 1,.slice none 0 0]:=by rw[<-hW];exact dJ w _ 9
 have Sm:Bk W w.heap.size 57 #[.string ⟨#[46,110,111,116,100,101,102]⟩,.int .i64 500,.bool false,.slice none 0 0,.slice none 0 0,.slice none 0 0,.slice none 0 0,.slice none 0 0,.slice none 0 0]:=K0;clear hW;have z0:=hbW.size;have hTW:=hT.all hbW;have RJ:nG<=W.heap.size:=nt hG z0;have S1:Sl ZK 9 W (FT W) (some ⟨w.heap.size,0,none⟩) qJ.Zt:=Sl.lit Sm (by decide) (by decide) (Fl.one ⟨none,0,none,0,none,0,none,0,none,0,none,0,rfl,I64.small (by decide) (by decide),Sl.nil,Sl.nil,Sl.nil,Sl.nil,Sl.nil,Sl.nil⟩ rfl);have Ri:Sl Zx 1 W (FT W) (some ⟨w.heap.size+1,0,none⟩) [0]:=Sl.lit K1 (by decide) (by decide) (Fl.one ⟨rfl,Dz⟩ rfl);have RX:Sl Zw 1 W (FT W) (some ⟨w.heap.size+2,0,none⟩) [[0]]:=Sl.lit K2 (by decide) (by decide) (Fl.one ⟨_,_,rfl,Ri⟩ rfl);have SE:Sl Zx 1 W (FT W) (some ⟨w.heap.size+3,0,none⟩) [0]:=Sl.lit K3 (by decide) (by decide) (Fl.one ⟨rfl,Dz⟩ rfl);have Ro:Sl ZP 6 W (FT W) (some ⟨w.heap.size+4,0,none⟩) [⟨[],[[0]],[],[0],[],0⟩]:=Sl.lit K4 (by decide) (by decide) (Fl.one ⟨none,0,_,_,none,0,_,_,none,0,rfl,Dz,Sl.nil,RX,Sl.nil,SE,Sl.nil⟩ rfl);have S3:Sl ZE 3 W (FT W) (some ⟨w.heap.size+5,0,none⟩) qJ.Zu:=Sl.lit K5 (by decide) (by decide) (Fl.one ⟨_,_,rfl,I64.small (by decide) (by decide),Ro⟩ rfl);have O0:∀g∈qJ.Zt,g.points.length<=1000000000/\g.ends.length<=1000000000:=by decide
 have hf1:=vP W qJ (some ⟨w.heap.size,0,none⟩) none (some ⟨w.heap.size+5,0,none⟩) none none none none none 1 0 1 0 0 0 0 0 hTW RJ (I64.small (by decide) (by decide)) S1 Sl.nil S3 Sl.nil Sl.nil Sl.nil Sl.nil Sl.nil O0 (by rw[Bj];decide);rw[Bj] at hf1;refine(show Calls _ _ _ _ _ from hf1).mono ?_;rintro e w1 ⟨rfl,hb1⟩;have OZ:=bt hbW hb1;have hT1:=hT.all OZ;have J7:=K7.below hb1;have J8:=K8.below hb1;have J9:=K9.below hb1;have z1:=hb1.size;have Rh:Sl ZQ 2 w1 (FT w1) (some ⟨w.heap.size+7,0,none⟩) [⟨1,5⟩,⟨2,0⟩]:=Sl.lit J7 (by decide) (by decide) ((Fl.one (R:=ZQ) ⟨rfl,I64.small (by decide) (by decide),I64.small (by decide) (by decide)⟩ rfl).append (Fl.one ⟨rfl,I64.small (by decide) (by decide),Dz⟩ rfl));have SB:Sl ZW 1 w1 (FT w1) (some ⟨w.heap.size+8,0,none⟩) xX.funcs:=Sl.lit J8 (by decide) (by decide) (Fl.one ⟨_,_,rfl,Rh⟩ rfl);have hf2:=vP w1 xX none none none none none none (some ⟨w.heap.size+8,0,none⟩) none 0 0 0 0 0 0 1 0 hT1 (nt RJ z1) (I64.small (by decide) (by decide)) Sl.nil Sl.nil Sl.nil Sl.nil Sl.nil Sl.nil SB Sl.nil (by decide) (by rw[Bv];decide);rw[Bv] at hf2;have V8:=hd0 hf2;have j0:w1.cell? ⟨w.heap.size+9,0,none⟩=some (.int .i64 16):=J9.cell 0;have j1:w1.cell? ⟨w.heap.size+9,1,none⟩=some (.slice none 0 0):=J9.cell 1;have j2:w1.cell? ⟨w.heap.size+9,2,none⟩=some (.slice none 0 0):=J9.cell 2;have j3:w1.cell? ⟨w.heap.size+9,3,none⟩=some (.slice none 0 0):=J9.cell 3;have j4:w1.cell? ⟨w.heap.size+9,4,none⟩=some (.slice none 0 0):=J9.cell 4;have j5:w1.cell? ⟨w.heap.size+9,5,none⟩=some (.slice none 0 0):=J9.cell 5;have j6:w1.cell? ⟨w.heap.size+9,6,none⟩=some (.slice none 0 0):=J9.cell 6;have j7:w1.cell? ⟨w.heap.size+9,7,none⟩=some (.slice (some ⟨w.heap.size+8,0,none⟩) 1 1):=J9.cell 7;have j8:w1.cell? ⟨w.heap.size+9,8,none⟩=some (.slice none 0 0):=J9.cell 8;have JH:fJ 39=[115,105,122,101]:=by decide
 have hop0:fJ 0=[63]:=by decide
 have JJ:fJ 40=[63]:=by decide
 clear hf2 hf1 S1 Ri RX SE Ro S3 O0 Rh SB J7 J8 J9 K0 Sm K1 K2 K3 K4 K5 K6 K7 K8 K9;have QZ:Hid (∀w,Tabs w->Calls Tryd.prog 13 #[.int .i64 39] w fun e w'=>e= .returned (.string ⟨#[115,105,122,101]⟩)/\w=w'):=fun w h=>by have:=xI w 39 h;rw[JH] at this;exact this
 have UM:Hid (∀w,Tabs w->Calls Tryd.prog 13 #[.int .i64 0] w fun e w'=>e= .returned (.string ⟨#[63]⟩)/\w=w'):=fun w h=>by have:=xI w 0 h;rw[hop0] at this;exact this
 have QR:Hid (∀w,Tabs w->Calls Tryd.prog 13 #[.int .i64 40] w fun e w'=>e= .returned (.string ⟨#[63]⟩)/\w=w'):=fun w h=>by have:=xI w 40 h;rw[JJ] at this;exact this
 clear JH hop0 JJ;go_wp2_with fail
 refine(show Calls _ _ _ _ _ from V8.out).mono ?_;rintro e w2 ⟨rfl,hb2⟩;have hbw2:=bt OZ hb2;have hT2:=hT.all hbw2;have OD:True:=trivial;have Tu:True:=trivial;have PL:True:=trivial;go_wp2_with (first
  |(go_at_call 13;have _t:=OD;refine(QZ.out _ hT2).mono ?_;rintro e w' ⟨rfl,rfl⟩;clear _t OD)
  |(go_at_call 13;have _t:=Tu;refine(UM.out _ hT2).mono ?_;rintro e w' ⟨rfl,rfl⟩;clear _t Tu)
  |(go_at_call 13;have _t:=PL;refine(QR.out _ hT2).mono ?_;rintro e w' ⟨rfl,rfl⟩;clear _t PL))
 go_ret
 exact⟨rfl,hbw2⟩
end
section
open Go.RowKit
def bu (fs:Nat->Value)(j:Nat)(u:Value):Nat->Value:=fun i=>if i=j then u else fs i
theorem uY (fs:Nat->Value)(j:Nat)(u v:Value):bu (bu fs j u) j v=bu fs j v:=by
 funext i
 unfold bu;split<;>rfl
theorem bH (fs:Nat->Value)(j:Nat)(u:Value):bu fs j u j=u:=if_pos rfl
theorem ay {fs:Nat->Value}{j i:Nat}{u:Value}(h:i≠j):bu fs j u i=fs i:=if_neg h
section
variable {w w2:World} {m:Nat} {fs:Nat->Value} {lp:Int}
theorem Mk.put (h:Mk w m fs lp)(j:Nat)(hj:j<9)(u:Value):Mk (w.setCell ⟨m,j+2,none⟩ u) m (bu fs j u) lp:=by
 have:j=0\/j=1\/j=2\/j=3\/j=4\/j=5\/j=6\/j=7\/j=8:=by omega
 rcases this with rfl|rfl|rfl|rfl|rfl|rfl|rfl|rfl|rfl<;>exact h.set _ u (fun A n c a=>by simp[mkV,bu])
theorem Mk.loops (h:Mk w m fs lp)(l:Int):Mk (w.setCell ⟨m,11,none⟩ (.int .i64 l)) m fs l:=h.set _ _ (fun A n c a=>by simp[mkV])
theorem Mk.bk (h:Mk w m fs lp):∃cs,Bk w m gm cs:=by obtain⟨A,n,c,a,zs,h1,-⟩:=h;exact⟨_,h1⟩
theorem Mk.sp (h:Mk w m fs lp)(j:Nat)(u:Value):Sp m gm w (w.setCell ⟨m,j,none⟩ u):=by obtain⟨cs,hb⟩:=h.bk;exact Sp.set hb (ag _) j u
theorem Mk.mvp (_h:Mk w m fs lp)(j:Nat)(u:Value):Mv m w (w.setCell ⟨m,j,none⟩ u):=aV (World.grownBy.refl _ _) (.inl rfl) u
theorem Mk.at' (h:Mk w m fs lp)(j:Nat)(hj:j<9){u:Value}(hu:fs j=u):w.cell? ⟨m,j+2,none⟩=some u:=by rw[h.cells.1 j hj,hu]
end
abbrev gQ:TypeId:=60
abbrev xe:List TypeId:=[aW,ax,tRow,kP]
def GY (x:Int×Bool):List Value:=[.int .i64 x.1,.bool x.2,.slice none 0 0]
def kw (l:List (Int×Bool)):List Value:=l.flatMap GY
structure L1 (w:World)(m:Nat)(fs:Nat->Value)(lp:Int)(bs:List (Int×Bool))(A:Option Addr)(c:Nat)(ks:List Int)(Ac:Option Addr)(cc:Nat)(wr:World):Prop where
 Zv:Mk wr m (bu fs 3 (.slice A bs.length c)) lp
 row:wr.ownsRow w.heap.size gQ 3 (.slice A bs.length c) bs.length (kw bs)
 cal:wr.ownsRow w.heap.size ax 1 (.slice Ac ks.length cc) ks.length (aI ks)
 mv:Mv m w wr
section
variable {w wr w2:World} {m:Nat} {fs:Nat->Value} {lp:Int} {bs:List (Int×Bool)} {A:Option Addr} {c:Nat} {ks:List Int} {Ac:Option Addr} {cc:Nat}
theorem L1.next (h:L1 w m fs lp bs A c ks Ac cc wr)(hm:Mk w2 m (bu fs 3 (.slice A bs.length c)) lp)(hv:Mv m wr w2):L1 w m fs lp bs A c ks Ac cc w2:=by have s:=Sp.next h.Zv hv;exact⟨hm,s.own h.row (by decide),s.own h.cal (by decide),cO h.mv hv⟩
theorem L1.below (h:L1 w m fs lp bs A c ks Ac cc wr)(hb:Below wr.heap.size wr w2):L1 w m fs lp bs A c ks Ac cc w2:=by have s:Sp m gm wr w2:=Sp.below hb;exact⟨h.Zv.below hb,s.own h.row (by decide),s.own h.cal (by decide),dX h.mv hb⟩
theorem L1.drew (h:L1 w m fs lp bs A c ks Ac cc wr):L1 w m fs lp bs A c ks Ac cc wr.drew:=h.below (aa0 _ _).drew
theorem L1.more (h:L1 w m fs lp bs A c ks Ac cc wr)(hmw:m<w.heap.size){n:Nat}(hn:bs.length=n)(hl:n<=1000)(k:Int)(b:Bool):
  ∃B d w9,(Builtin.append_ #[26,26] 26 #[.slice A n c,.slice (some ⟨wr.heap.size,0,none⟩) 1 1]).run Tryd.prog (wr.alloc (.cells #[.int .i64 k,.bool b,.slice none 0 0] gQ))= .ok (.slice B (n+1) d) w9/\
   w9.cell? ⟨m,5,none⟩=some (.slice A n c)/\w9.frozen? ⟨m,5,none⟩=false/\m<w9.heap.size/\L1 w m fs lp (bs++[(k,b)]) B d ks Ac cc (w9.setCell ⟨m,5,none⟩ (.slice B (n+1) d)):=by
 subst hn;obtain⟨B,d,w9,hrun,bG,bD,nH⟩:=di Ol 26 wr w.heap.size _ c A _ #[.int .i64 k,.bool b,.slice none 0 0] rfl h.row (by simp[Value.oneCell']) (by omega) h.mv.size;have s:Sp m gQ wr w9:=Sp.push h.row (by omega) bD;have iU:=s.mk h.Zv (by decide);have hn:(bs++[(k,b)]).length=bs.length+1:=by simp
 have ho:w9.ownsRow w.heap.size gQ 3 (.slice B (bs++[(k,b)]).length d) (bs++[(k,b)]).length (kw (bs++[(k,b)])):=by rw[hn];simpa [kw,GY] using bG
 have s2:=iU.sp 5 (.slice B (bs.length+1) d);have yQ:=iU.put 3 (by omega) (.slice B (bs.length+1) d);rw[uY] at yQ;refine⟨B,d,w9,hrun,iU.at' 3 (by omega) (bH _ _ _),iU.frozen 5,iU.lt,by rw[hn];exact yQ,s2.own ho (by decide),s2.own (s.own h.cal (by decide)) (by decide),cO (eX h.mv h.row (ag _) bD) (iU.mvp 5 _)⟩
theorem L1.call (h:L1 w m fs lp bs A c ks Ac cc wr)(hmw:m<w.heap.size){B:Option Addr}{d:Nat}{x:Int}(ho:w2.ownsRow w.heap.size ax 1 (.slice B (ks.length+1) d) (ks.length+1) (aI ks++[.int .i64 x]))(hg:wr.grownBy w2 (Value.slice Ac ks.length cc).ownBlock):L1 w m fs lp bs A c (ks++[x]) B d w2:=by
 have s:Sp m ax wr w2:=Sp.push h.cal (by omega) hg;have hn:(ks++[x]).length=ks.length+1:=by simp
 refine⟨s.mk h.Zv (by decide),s.own h.row (by decide),?_,eX h.mv h.cal (ag _) hg⟩;rw[hn];simpa [aI,cI] using ho
end
structure L2 (w:World)(m:Nat)(fs:Nat->Value)(lp:Int)(n:Nat)(A:Option Addr)(c:Nat)(dc:List Value)(ls:List Lookup)(mid:List Value)(rest:List (Int×Bool))(ks:List Int)(Ac:Option Addr)(cc:Nat)(top:Nat)(wr:World):Prop where
 Zv:Mk wr m (bu fs 3 (.slice A n c)) lp
 row:wr.ownsRow w.heap.size gQ 3 (.slice A n c) n (dc++(mid++kw rest))
 done:Fl ZE 3 wr (TR xe w.heap.size top wr) dc ls
 cal:wr.ownsRow w.heap.size ax 1 (.slice Ac ks.length cc) ks.length (aI ks)
 mv:Mv m w wr
 top:w.heap.size<=top/\top<=wr.heap.size
section
variable {w wr w2:World} {m:Nat} {fs:Nat->Value} {lp:Int} {n:Nat} {A:Option Addr} {c:Nat} {dc:List Value} {ls:List Lookup} {mid:List Value} {rest:List (Int×Bool)} {ks:List Int} {Ac:Option Addr} {cc top:Nat}
theorem L1.two {bs:List (Int×Bool)}(h:L1 w m fs lp bs A c ks Ac cc wr):L2 w m fs lp bs.length A c [] [] [] bs ks Ac cc wr.heap.size wr:=⟨h.Zv,by simpa using h.row,Fl.nil,h.cal,h.mv,h.mv.size,ag _⟩
theorem L2.next (h:L2 w m fs lp n A c dc ls mid rest ks Ac cc top wr)(hmw:m<w.heap.size)(hm:Mk w2 m (bu fs 3 (.slice A n c)) lp)(hv:Mv m wr w2):L2 w m fs lp n A c dc ls mid rest ks Ac cc top w2:=by have s:=Sp.next h.Zv hv;have hz:=hv.size;exact⟨hm,s.own h.row (by decide),h.done.moved ZE.ok (TR.step hv (fun x hx=>by injection hx with hx;exact .inl (by omega))),s.own h.cal (by decide),cO h.mv hv,h.top.1,nt h.top.2 hz⟩
theorem L2.below (h:L2 w m fs lp n A c dc ls mid rest ks Ac cc top wr)(hb:Below wr.heap.size wr w2):L2 w m fs lp n A c dc ls mid rest ks Ac cc top w2:=by have s:Sp m gm wr w2:=Sp.below hb;exact⟨h.Zv.below hb,s.own h.row (by decide),h.done.moved ZE.ok (TR.step (bQ hb none) (fun x hx=>by cases hx)),s.own h.cal (by decide),dX h.mv hb,h.top.1,nt h.top.2 hb.size⟩
theorem L2.drew (h:L2 w m fs lp n A c dc ls mid rest ks Ac cc top wr):L2 w m fs lp n A c dc ls mid rest ks Ac cc top wr.drew:=h.below (aa0 _ _).drew
theorem L2.calls (h:L2 w m fs lp n A c dc ls mid rest ks Ac cc top wr)(hk:∀x∈ks,I64 x):Sl Zx 1 wr (TR [ax] w.heap.size wr.heap.size wr) Ac ks:=nC h.cal (dU _ _ ks hk) (by simp) (ag _) (by omega)
theorem L2.head {k:Int}{b:Bool}{r:List (Int×Bool)}(h:L2 w m fs lp n A c dc ls [] ((k,b)::r) ks Ac cc top wr):L2 w m fs lp n A c dc ls [.int .i64 k,.bool b,.slice none 0 0] r ks Ac cc top wr:=by refine⟨h.Zv,?_,h.done,h.cal,h.mv,h.top⟩;have:=h.row;simpa [kw,GY] using this
theorem L2.cells {k:Int}{b:Bool}{v:Value}(h:L2 w m fs lp n A c dc ls [.int .i64 k,.bool b,v] rest ks Ac cc top wr):∃g,A=some ⟨g,0,none⟩/\g<wr.heap.size/\wr.cell? ⟨g,ls.length*3,none⟩=some (.int .i64 k)/\wr.cell? ⟨g,ls.length*3+1,none⟩=some (.bool b)/\wr.cell? ⟨g,ls.length*3+2,none⟩=some v/\(∀j,wr.frozen? ⟨g,j,none⟩=false)/\ls.length<n/\w.heap.size<=g:=by
 have hr:=h.row;have hl:=hr.1;have hd:=h.done.1;simp only[la,lc,ln,hd] at hl;have hn:ls.length<n:=by omega
 obtain⟨g,rfl⟩:∃g,A=some ⟨g,0,none⟩:=by
  rcases hr.2 with⟨-,h2⟩|⟨g,cap,cur,h1,-⟩
  ·omega
  simp only[abQ,true_and] at h1;exact⟨g,h1.1⟩
 have hlt:=hr.lt g rfl;have hat:∀j (u:Value),(dc++([.int .i64 k,.bool b,v]++kw rest))[j]? =some u->wr.cell? ⟨g,j,none⟩=some u:=fun j u hu=>by
  have:=hr.cells (g:=g) rfl j u hu
  rwa [addr_add,abI] at this
 refine⟨g,rfl,hlt.2,hat _ _ ?_,hat _ _ ?_,hat _ _ ?_,fun j=>hr.frozenAt j,hn,hlt.1⟩
 ·rw[abm (by omega),hd,Nat.sub_self];rfl
 ·rw[abm (by omega),hd,show ls.length*3+1 - ls.length*3=1 by omega];rfl
 rw[abm (by omega),hd,show ls.length*3+2 - ls.length*3=2 by omega];rfl
theorem L2.at' {k:Int}{b:Bool}{v:Value}{g:Nat}(h:L2 w m fs lp n (some ⟨g,0,none⟩) c dc ls [.int .i64 k,.bool b,v] rest ks Ac cc top wr):wr.cell? ⟨g,ls.length*3,none⟩=some (.int .i64 k)/\wr.cell? ⟨g,ls.length*3+2,none⟩=some v/\g<wr.heap.size:=by
 obtain⟨g',hg',hgz,e0,-,e2,-,-,-⟩:=h.cells;have e:g'=g:=by simpa using hg'.symm
 subst e;exact⟨e0,e2,hgz⟩
theorem L2.skip {k:Int}{b:Bool}(h:L2 w m fs lp n A c dc ls [.int .i64 k,.bool b,.slice none 0 0] rest ks Ac cc top wr)(hk:I64 k):L2 w m fs lp n A c (dc++[.int .i64 k,.bool b,.slice none 0 0]) (ls++[⟨k,b,[]⟩]) [] rest ks Ac cc top wr:=by refine⟨h.Zv,?_,h.done.append (Fl.one ⟨none,0,rfl,hk,Sl.nil⟩ rfl),h.cal,h.mv,h.top⟩;have:=h.row;simpa using this
end
structure L3 (w:World)(m:Nat)(fs:Nat->Value)(lp:Int)(n:Nat)(A:Option Addr)(c:Nat)(dc:List Value)(ls:List Lookup)(k:Int)(b:Bool)(rs:List Z8)(Ar:Option Addr)(cr:Nat)(rc:List Value)(rest:List (Int×Bool))(ks:List Int)(Ac:Option Addr)(cc:Nat)(top hi:Nat)(wr:World):Prop where
 two:L2 w m fs lp n A c dc ls [.int .i64 k,.bool b,.slice Ar rs.length cr] rest ks Ac cc top wr
 aaz:wr.ownsRow top aW 6 (.slice Ar rs.length cr) rs.length rc
 rfl':Fl ZP 6 wr (TR dL top hi wr) rc rs
 hi':top<=hi/\hi<=wr.heap.size
section
variable {w wr w2:World} {m:Nat} {fs:Nat->Value} {lp:Int} {n:Nat} {A:Option Addr} {c:Nat} {dc:List Value} {ls:List Lookup} {k:Int} {b:Bool} {rs:List Z8} {Ar:Option Addr} {cr:Nat} {rc:List Value} {rest:List (Int×Bool)} {ks:List Int} {Ac:Option Addr} {cc top hi:Nat}
theorem L2.three (h:L2 w m fs lp n A c dc ls [.int .i64 k,.bool b,.slice none 0 0] rest ks Ac cc top wr):L3 w m fs lp n A c dc ls k b [] none 0 [] rest ks Ac cc wr.heap.size wr.heap.size wr:=⟨⟨h.Zv,h.row,h.done.mono ZE.ok (TR.sub (fun _ h=>h) (ag _) h.top.2),h.cal,h.mv,nt h.top.1 h.top.2,ag _⟩,World.ownsRow_nil _ _ _ _,Fl.nil,ag _,ag _⟩
theorem L3.next (h:L3 w m fs lp n A c dc ls k b rs Ar cr rc rest ks Ac cc top hi wr)(hmw:m<w.heap.size)(hm:Mk w2 m (bu fs 3 (.slice A n c)) lp)(hv:Mv m wr w2):L3 w m fs lp n A c dc ls k b rs Ar cr rc rest ks Ac cc top hi w2:=by have s:=Sp.next h.two.Zv hv;have ht:=h.two.top;exact⟨h.two.next hmw hm hv,s.own h.aaz (by decide),h.rfl'.moved ZP.ok (TR.step hv (fun x hx=>by injection hx with hx;exact .inl (by omega))),h.hi'.1,nt h.hi'.2 hv.size⟩
theorem L3.drew (h:L3 w m fs lp n A c dc ls k b rs Ar cr rc rest ks Ac cc top hi wr):L3 w m fs lp n A c dc ls k b rs Ar cr rc rest ks Ac cc top hi wr.drew:=⟨h.two.drew,h.aaz,h.rfl',h.hi'⟩
theorem L3.more (h:L3 w m fs lp n A c dc ls k b rs Ar cr rc rest ks Ac cc top hi wr)(hmw:m<w.heap.size){nr:Nat}(hnr:rs.length=nr)(hl:nr<=1000){g:Nat}(hA:A=some ⟨g,0,none⟩){lo:Nat}(hlo:top<=lo)(r:Z8){B0 B1 B2 B3 B4:Option Addr}{d0 d1 d2 d3 d4:Nat}(hx:I64 r.x)
  (s0:Sl Zw 1 wr (TS dL lo wr) B0 r.back) (s1:Sl Zw 1 wr (TS dL lo wr) B1 r.in') (s2:Sl Zw 1 wr (TS dL lo wr) B2 r.ahead) (s3:Sl Zx 1 wr (TS dL lo wr) B3 r.out) (s4:Sl ZZ 2 wr (TS dL lo wr) B4 r.calls):
  ∃B d w9 rc',(Builtin.append_ #[58,58] 58 #[.slice Ar nr cr,.slice (some ⟨wr.heap.size,0,none⟩) 1 1]).run Tryd.prog (wr.alloc (.cells #[.slice B0 r.back.length d0,.slice B1 r.in'.length d1,.slice B2 r.ahead.length d2,.slice B3 r.out.length d3,.slice B4 r.calls.length d4,.int .i64 r.x] aW))= .ok (.slice B (nr+1) d) w9/\
   w9.cell? ⟨m,5,none⟩=some (.slice A n c)/\w9.cell? ⟨g,ls.length*3,none⟩=some (.int .i64 k)/\w9.cell? ⟨g,ls.length*3+2,none⟩=some (.slice Ar nr cr)/\w9.frozen? ⟨g,ls.length*3+2,none⟩=false/\g<w9.heap.size/\L3 w m fs lp n A c dc ls k b (rs++[r]) B d rc' rest ks Ac cc top wr.heap.size (w9.setCell ⟨g,ls.length*3+2,none⟩ (.slice B (nr+1) d)):=by
 subst hnr;have ht:=h.two.top;obtain⟨B,d,w9,hrun,bG,bD,nH⟩:=di OY 58 wr top _ cr Ar _ #[.slice B0 r.back.length d0,.slice B1 r.in'.length d1,.slice B2 r.ahead.length d2,.slice B3 r.out.length d3,.slice B4 r.calls.length d4,.int .i64 r.x] rfl h.aaz (by simp[Value.oneCell']) (by omega) ht.2;have s:Sp m aW wr w9:=Sp.push h.aaz (by omega) bD;have Gu:=bD.size;have two9:L2 w m fs lp n A c dc ls [.int .i64 k,.bool b,.slice Ar rs.length cr] rest ks Ac cc top w9:=⟨s.mk h.two.Zv (by decide),s.own h.two.row (by decide),h.two.done.moved ZE.ok (TR.step bD (fun x hx=> .inr (h.aaz.lt x hx).1)),s.own h.two.cal (by decide),eX h.two.mv h.aaz (by omega) bD,ht.1,by omega⟩
 obtain⟨g',hg',hgl,e0,e1,e2,ef,hn,hgw⟩:=two9.cells;have eg:g=g':=by have:=hA.symm.trans hg';simpa using this
 subst eg;have hn2:(rs++[r]).length=rs.length+1:=by simp
 have one:Fl ZP 6 wr (TR dL top wr.heap.size wr) [.slice B0 r.back.length d0,.slice B1 r.in'.length d1,.slice B2 r.ahead.length d2,.slice B3 r.out.length d3,.slice B4 r.calls.length d4,.int .i64 r.x] [r]:=Fl.one ⟨B0,d0,B1,d1,B2,d2,B3,d3,B4,d4,rfl,hx,s0.mono Zw.ok (TR.aaA hlo),s1.mono Zw.ok (TR.aaA hlo),s2.mono Zw.ok (TR.aaA hlo),s3.mono Zx.ok (TR.aaA hlo),s4.mono ZZ.ok (TR.aaA hlo)⟩ rfl;have all:=(h.rfl'.mono ZP.ok (TR.sub (fun _ h=>h) (ag _) h.hi'.2)).append one;have IK:Fl ZP 6 w9 (TR dL top wr.heap.size w9) _ (rs++[r]):=all.moved ZP.ok (by
  have key:∀b,TR dL top wr.heap.size wr b->w9.heap[b]? =wr.heap[b]? :=fun b ⟨h1,cs,t,hk,htt⟩=>bD.block b hk.lt (fun e=>by
   obtain⟨cur,hb⟩:=dh h.aaz b e.symm;have:=(iT hb hk).1;subst this;exact absurd htt (by decide))
  exact⟨key,fun b hb=>by
   obtain⟨h1,cs,t,hk,htt⟩:=hb;exact⟨h1,cs,t,(key b ⟨h1,cs,t,hk,htt⟩).trans hk,htt⟩⟩)
 obtain⟨cs,hbk⟩:∃cs,Bk w9 g gQ cs:=by obtain⟨cur,hk⟩:=dh two9.row g (by rw[hA];rfl);exact⟨_,hk⟩
 have s2':Sp m gQ w9 (w9.setCell ⟨g,ls.length*3+2,none⟩ (.slice B (rs.length+1) d)):=Sp.set hbk (by omega) _ _;have hgr:w9.grownBy (w9.setCell ⟨g,ls.length*3+2,none⟩ (.slice B (rs.length+1) d)) (some g):=aV (World.grownBy.refl _ _) (.inl rfl) _;have hrow:=two9.row;rw[hA] at hrow;have hst:=(hrow.stored (ls.length*3+2) (.slice B (rs.length+1) d)).1;have hset:(dc++([Value.int .i64 k,.bool b,.slice Ar rs.length cr]++kw rest)).set (ls.length*3+2) (.slice B (rs.length+1) d)=dc++([Value.int .i64 k,.bool b,.slice B (rs.length+1) d]++kw rest):=by rw[List.set_append_right _ _ (by rw[two9.done.1];omega),two9.done.1,show ls.length*3+2 - ls.length*3=2 by omega];rfl
 have tl:∀(ts:List TypeId) (lo hi:Nat),gQ ∉ ts->Same (TR ts lo hi w9) w9 (w9.setCell ⟨g,ls.length*3+2,none⟩ (.slice B (rs.length+1) d))/\∀b,TR ts lo hi w9 b->TR ts lo hi (w9.setCell ⟨g,ls.length*3+2,none⟩ (.slice B (rs.length+1) d)) b:=fun ts lo hi hts=>by
  have key:∀b,TR ts lo hi w9 b->(w9.setCell ⟨g,ls.length*3+2,none⟩ (.slice B (rs.length+1) d)).heap[b]? =w9.heap[b]? :=fun b' ⟨h1,cs',t,hk,htt⟩=>hgr.block b' hk.lt (fun e=>by
   injection e with e
   subst e;have:=(iT hbk hk).1;subst this;exact hts htt)
  exact⟨key,fun b' hb=>by
   obtain⟨h1,cs',t,hk,htt⟩:=hb;exact⟨h1,cs',t,(key b' ⟨h1,cs',t,hk,htt⟩).trans hk,htt⟩⟩
 refine⟨B,d,w9,_,hrun,two9.Zv.at' 3 (by omega) (bH _ _ _),e0,e2,ef _,hgl,⟨s2'.mk two9.Zv (by decide),?_,two9.done.moved ZE.ok (tl xe _ _ (by decide)),s2'.own two9.cal (by decide),kG two9.mv hgw _ _,ht.1,by simpa using two9.top.2⟩,?_,IK.moved ZP.ok (tl dL _ _ (by decide)),ht.2,by simpa using Gu⟩
 ·rw[hset] at hst;rw[hn2,hA];exact hst
 rw[hn2];exact s2'.own bG (by decide)
theorem L3.fin (h:L3 w m fs lp n A c dc ls k b rs Ar cr rc rest ks Ac cc top hi wr)(hk:I64 k):L2 w m fs lp n A c (dc++[.int .i64 k,.bool b,.slice Ar rs.length cr]) (ls++[⟨k,b,rs⟩]) [] rest ks Ac cc wr.heap.size wr:=by have ht:=h.two.top;have sl:Sl ZP 6 wr (TR xe w.heap.size wr.heap.size wr) Ar rs:=nC h.aaz (h.rfl'.mono ZP.ok (TR.sub (by decide) ht.1 h.hi'.2)) (by decide) ht.1 (by omega);refine⟨h.two.Zv,?_,(h.two.done.mono ZE.ok (TR.sub (fun _ h=>h) (ag _) ht.2)).append (Fl.one ⟨Ar,cr,rfl,hk,sl⟩ rfl),h.two.cal,h.two.mv,nt ht.1 ht.2,ag _⟩;have:=h.two.row;simpa using this
end
theorem L2.fin {w wr:World}{m:Nat}{fs:Nat->Value}{lp:Int}{n:Nat}{A:Option Addr}{c:Nat}{dc:List Value}{ls:List Lookup}{ks:List Int}{Ac:Option Addr}{cc top:Nat}(h:L2 w m fs lp n A c dc ls [] [] ks Ac cc top wr):ls.length=n/\Sl ZE 3 wr (TR (gQ::xe) w.heap.size wr.heap.size wr) A ls:=by
 have hl:=h.row.1;have hd:=h.done.1;simp only[abw,kw,abJ,la,ln,hd] at hl;have hn:ls.length=n:=by omega
 refine⟨hn,?_⟩;subst hn;have hr:=h.row;simp only[abw,kw,abJ] at hr;exact nC hr (h.done.mono ZE.ok (TR.sub (by decide) (ag _) h.top.2)) (by decide) (ag _) (by omega)
end
end Go.Proofs.YtkijckccfookeaaDoor
