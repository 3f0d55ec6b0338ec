/- Lemmas. -/
import Derived.Test.YtkijckccfookeaaDoorW03
import Derived.WalkSmall
import Derived.Deep.LoopGhost
import Derived.Lib.SmallJoins
import Derived.Test.YtkijckccfookeaaDoorRows
import Derived.Lib.MakeNoZero
set_option linter.unusedVariables false
set_option linter.unusedSimpArgs false
set_option maxRecDepth 100000
set_option maxHeartbeats 32000000
namespace Go.Proofs.YtkijckccfookeaaDoor
section
open Go.RowKit
def nZ (c:UInt8):Bool:=c !=32 && c !=9 && c !=10 && c !=35
def aP (w:B):Bool:= !w.isEmpty && w.all nZ
theorem ny {c:UInt8}(h:nZ c=true):blank c=false/\c≠35/\c≠10:=by simp only[nZ,abo,bne_iff_ne,ne_eq] at h;exact⟨by simp[blank,h.1.1.1,h.1.1.2],h.2,h.1.2⟩
theorem BH {w:B}(h:aP w=true):w≠[]:=by intro e;subst e;simp[aP] at h
theorem mP {w:B}(h:aP w=true):∀c∈w,nZ c=true:=by simp only[aP,abo,abB] at h;exact h.2
def lg (ws:List B):B:=match ws with|[]=>[10]|w::r=>ai w r
def kZ:Nat->List B->List (Nat×B)
 |_,[]=>[]
 |k,w::r=>(k,w)::kZ (k+w.length+1) r
theorem wZ (σ :St)(w:B)(hw:aP w=true)(hc: σ.cur=[]):w.foldl step σ =⟨σ.at'+w.length,σ.at',w,σ.told⟩:=by
 cases w with
 |nil=>simp[aP] at hw
 |cons c r=>have h1:=ny (mP hw c (by simp));rw[abr,Gq _ r (by unfold step;simp[h1.1]) (fun d hd=>(ny (mP hw d (by simp[hd]))).1)];unfold step;simp[h1.1,hc];omega
theorem Fp (ws:List B)(σ :St)(hc: σ.cur≠[])(h:∀w∈ws,aP w=true):((bK ws).foldl step σ).all= σ.told++[(σ.fr,σ.cur)]++kZ (σ.at'+1) ws:=by
 induction ws generalizing σ with
 |nil=>simp[bK,kZ,St.all,St.pend,hc]
 |cons w r ih=>
  have e:bK (w::r)=32::(w++bK r):=by simp[bK]
  have hs:step σ 32=⟨σ.at'+1,0,[],σ.all⟩:=by unfold step;rw[if_pos (by decide)]
  rw[e,abr,List.foldl_append,hs,wZ _ w (h w (by simp)) rfl,ih _ (BH (h w (by simp))) (fun x hx=>h x (by simp[hx]))];simp[St.all,St.pend,hc,kZ]
  all_goals omega
theorem GK (l:B)(h:∀c∈l,c≠35):code l=l:=by
 unfold code;induction l with
 |nil=>rfl
 |cons d r ih=>rw[List.takeWhile_cons_of_pos (by simpa using h d (by simp)),ih (fun c hc=>h c (by simp[hc]))]
theorem Ba (ws:List B)(h:∀w∈ws,aP w=true):∀c∈bK ws,c≠35/\c≠10:=by
 intro c hc;simp only[bK,abE,abd] at hc;obtain⟨w,hw,hc|hc⟩:=hc
 ·subst hc;decide
 exact(ny (mP (h w hw) c hc)).2
theorem Ic (w:B)(ws:List B)(h:∀x∈w::ws,aP x=true):one (w++bK ws)=kZ 0 (w::ws):=by
 have hn:∀c∈w++bK ws,c≠35:=by
  intro c hc;rw[aa5] at hc;rcases hc with hc|hc
  ·exact(ny (mP (h w (by simp)) c hc)).2.1
  exact(Ba ws (fun x hx=>h x (by simp[hx])) c hc).1
 rw[one,GK _ hn,run,List.foldl_append,wZ st0 w (h w (by simp)) rfl,Fp ws _ (BH (h w (by simp))) (fun x hx=>h x (by simp[hx]))];simp[kZ,st0]
def jA:Nat->List (List B)->List (List Wd)
 |_,[]=>[]
 |n,l::ls=>num n (kZ 0 l)::jA (n+1) ls
def mD:Nat->List (List B)->List (Int×List B)
 |_,[]=>[]
 |n,l::ls=>((n:Int),l)::mD (n+1) ls
def MJ (L:List (List B)):Prop:=∀l∈L,l≠[]/\∀w∈l,aP w=true
theorem Ce (L:List (List B))(n:Nat)(h:MJ L):bg n (gz (L.flatMap lg))=jA n L:=by
 induction L generalizing n with
 |nil=>simp[gz,bg,jA,one,code,run,st0,St.all,St.pend]
 |cons l ls ih=>
  obtain⟨h1,h2⟩:=h l (by simp);cases l with
  |nil=>exact absurd rfl h1
  |cons w r=>
   have hno:∀c∈w++bK r,c≠10:=by
    intro c hc;rw[aa5] at hc;rcases hc with hc|hc
    ·exact(ny (mP (h2 w (by simp)) c hc)).2.2
    exact(Ba r (fun x hx=>h2 x (by simp[hx])) c hc).2
   have e:((w::r)::ls).flatMap lg=(w++bK r)++10::ls.flatMap lg:=by simp[lg,ai]
   rw[e,AA _ _ hno,bg,Ic w r h2,ih (n+1) (fun x hx=>h x (by simp[hx]))];simp[kZ,jA]
theorem Gn (L:List (List B))(h:MJ L):kJ (L.flatMap lg)=jA 1 L:=Ce L 1 h
theorem EK (n:Nat)(a b:List (List B)):mD n (a++b)=mD n a++mD (n+a.length) b:=by
 induction a generalizing n with
 |nil=>simp[mD]
 |cons l ls ih=>simp only[abh,mD,ih,lc];rw[show n+1+ls.length=n+(ls.length+1) by omega]
theorem Es (gl:Gl)(s:PS)(a b:List (Int×List B)):stmts gl s (a++b)=(match stmts gl s a with| .ok s'=>stmts gl s' b| .error e=> .error e):=by
 induction a generalizing s with
 |nil=>rfl
 |cons x a ih=>
  obtain⟨n,l⟩:=x;simp only[abh,stmts];cases stmt gl s l with
  |error e=>rfl
  |ok s'=>exact ih s'
def yj (σ :St):Int:=if σ.cur=[] then -1 else σ.fr
theorem yF {σ :St}(h: σ.cur=[]):yj σ = -1:=by rw[yj,if_pos h]
theorem vU {σ :St}(h: σ.cur≠[]):yj σ =(σ.fr:Int):=by rw[yj,if_neg h]
theorem Dv (n:Nat)(a b:List (Nat×B)):num n (a++b)=num n a++num n b:=by simp[num]
theorem LZ (n:Nat){σ :St}(h: σ.cur=[]):num n σ.all=num n σ.told:=by rw[St.all,St.pend,if_pos h,abw]
theorem LH (n:Nat)(s:B)(k:Nat)(h:(run (s.take k)).cur≠[]):num n (run (s.take k)).all=num n (run (s.take k)).told++[((n:Int),((run (s.take k)).fr:Int),(s.take k).drop (run (s.take k)).fr)]:=by rw[St.all,St.pend,if_neg h,Dv,(BD _ h).2];rfl
theorem QE (s:B)(k:Nat)(hk:k<=s.length)(h:(run (s.take k)).cur≠[]):(run (s.take k)).fr<=k:=by have:=(BD _ h).1;rw[abl] at this;omega
theorem EJ (s:B)(k:Nat)(c:UInt8)(h:s[k]? =some c)(hb:blank c=true):(run (s.take (k+1))).told=(run (s.take k)).all/\yj (run (s.take (k+1)))= -1:=by refine⟨?_,yF (ER s k c h hb)⟩;rw[take_snoc s k c h,jV,step,if_pos hb]
theorem KQ (s:B)(k d:Nat)(hd:1<=d)(hk:k+d<=s.length)(hn:∀j c,k<=j->j<k+d->s[j]? =some c->blank c=false):
  (run (s.take (k+d))).told=(run (s.take k)).told/\(run (s.take (k+d))).cur≠[]/\(run (s.take (k+d))).fr=if(run (s.take k)).cur=[] then k else(run (s.take k)).fr:=by
 obtain⟨d,rfl⟩:∃e,d=e+1:=⟨d - 1,by omega⟩
 clear hd;induction d with
 |zero=>have hg:s[k]? =some (s[k]'(by omega)):=aa3 (by omega);have hb:=hn k _ (ag _) (by omega) hg;have ha:=EL (s.take k);rw[abl,Nat.min_eq_left (by omega)] at ha;rw[abI,take_snoc s k _ hg,jV,step,if_neg (by simp[hb])];simp[ha]
 |succ d ih=>obtain⟨i1,i2,i3⟩:=ih (by omega) (fun j c h1 h2 h3=>hn j c h1 (by omega) h3);have hg:s[k+(d+1)]? =some (s[k+(d+1)]'(by omega)):=aa3 (by omega);have hb:=hn (k+(d+1)) _ (by omega) (by omega) hg;rw[<-abK k (d+1) 1,take_snoc s (k+(d+1)) _ hg,jV,step,if_neg (by simp[hb])];refine⟨i1,by simp,?_⟩;rw[if_neg i2];exact i3
theorem vg (W:World)(h:Nat)(s:B)(n k:Nat)(hb:aam h s n (yj (run (s.take k))) (num n (run (s.take k)).told) W)(hk:k<=s.length)(hs:s.length<=800000000):
  Calls Tryd.prog 61 #[.int .i64 k,.pointer (some ⟨h+1+1+1,0,none⟩),.pointer (some ⟨h+1+1,0,none⟩),.pointer (some ⟨h+1,0,none⟩),.pointer (some ⟨h,0,none⟩)] W (nI h s n (num n (run (s.take k)).all) W):=by
 by_cases hc:(run (s.take k)).cur=[]
 ·rw[yF hc] at hb;rw[LZ n hc];exact La W h s n k _ hb
 rw[vU hc] at hb;rw[LH n s k hc];refine Ie W h s n _ k _ hb (QE s k hk hc) hk hs ?_;have h1:=zK (s.take k);rw[abl,St.all,la] at h1;rw[Be];omega
theorem own_iterAt {w:World}{base:Nat}{e:TypeId}{size:Nat}{v:Value}{n:Nat}{xs:List Value}(h:w.ownsRow base e size v n xs){k:Nat}{s:ByteArray}{p:Nat}(hk:w.heap[k]? =some (.stringIter s p))(q:Nat):(w.iterAt k s q).ownsRow base e size v n xs:=by
 refine h.kept (row:=some k) ⟨rfl,rfl,rfl,by rw[Lib.iterAt_size];exact ag _,fun i _ hne=>Lib.iterAt_other w k i s q (fun e=>hne (by rw[e]))⟩ ?_;cases hv:v.ownBlock with
 |none=>exact .inl rfl
 |some g=>
  refine .inr ?_;intro e;injection e with e
  subst e;obtain⟨cur,hb⟩:=dh h g hv;have:w.heap[g]? =_:=hb;rw[hk] at this;cases this
theorem Bk.iterAt {w:World}{g:Nat}{t:TypeId}{cs:Array Value}(h:Bk w g t cs){k:Nat}{s:ByteArray}{p:Nat}(hk:w.heap[k]? =some (.stringIter s p))(q:Nat):Bk (w.iterAt k s q) g t cs:=by refine(Lib.iterAt_other w k g s q ?_).trans h;rintro rfl;have:w.heap[g]? =_:=h;rw[hk] at this;cases this
theorem aam.iterAt {h:Nat}{s:B}{n:Nat}{f:Int}{ws:List P3}{W:World}(hb:aam h s n f ws W){k:Nat}{s':ByteArray}{p:Nat}(hk:W.heap[k]? =some (.stringIter s' p))(q:Nat):aam h s n f ws (W.iterAt k s' q):=by obtain⟨h1,h2,h3,A,c,h4,h5⟩:=hb;exact⟨h1.iterAt hk q,h2.iterAt hk q,h3.iterAt hk q,A,c,h4.iterAt hk q,own_iterAt h5 hk q⟩
def nV (w:World)(s:B)(n k:Nat)(wr:World):Prop:=wr.heap[w.heap.size+1+1+1+1]? =some (.stringIter ⟨s.toArray⟩ k)/\k<=s.length/\(∀j c,j<k->s[j]? =some c->c≠35)/\aam w.heap.size s n (yj (run (s.take k))) (num n (run (s.take k)).told) wr/\Below w.heap.size w wr
def qE (w:World)(s:B)(n:Nat)(e:Ending)(w':World):Prop:=∃v,e= .returned v/\w'.ownsRow w.heap.size 63 3 v (one s).length (jQ (num n (one s)))/\Below w.heap.size w w'
theorem wU (w W':World)(s:B)(n k m c:Nat)(A:Option Addr)(hcode:code s=s.take k)(hm:(num n (run (s.take k)).all).length=m)(h5:W'.ownsRow (w.heap.size+1+1+1+1) 63 3 (.slice A m c) m (jQ (num n (run (s.take k)).all)))(hbl:Below w.heap.size w W'):qE w s n (.returned (.slice A m c)) W':=by refine⟨_,rfl,?_,hbl⟩;rw[Be] at hm;rw[one,hcode,hm];exact ownsRow_base h5 (by omega)
theorem I5 (s:B)(j:Nat)(c:UInt8)(h:s[j]? =some c):(ByteArray.mk s.toArray).get! j=c:=by obtain⟨h1,h2⟩:=aa2.1 h;simp[ByteArray.get!,h1,h2]
theorem zi (s:B)(k:Nat)(c:UInt8)(hc:s[k]? =some c)(h35:c≠35)(hbk:blank c=false):
  ∃r d:Nat,Utf8.decode ⟨s.toArray⟩ k=(r,d)/\((r:Int)==35)=false/\((r:Int)==32)=false/\((r:Int)==9)=false/\r<=2147483647/\1<=d/\k+d<=s.length/\∀j c,k<=j->j<k+d->s[j]? =some c->blank c=false/\c≠35:=by
 have hlt:k<s.length:=(aa2.1 hc).1;have hb:=byte_at s k c hc hlt;have hle:=decode_le ⟨s.toArray⟩ k;have n35:c.toNat≠35:=fun h=>h35 (UInt8.toNat_inj.1 h)
 have Zh:c.toNat≠32/\c.toNat≠9:=by simp only[blank,Bool.or_eq_false_iff,beq_eq_false_iff_ne,ne_eq] at hbk;exact⟨fun h=>hbk.1 (UInt8.toNat_inj.1 h),fun h=>hbk.2 (UInt8.toNat_inj.1 h)⟩
 by_cases ha:c.toNat<128
 ·have hd:=decode_ascii ⟨s.toArray⟩ k hlt (by rw[hb];exact ha);rw[hb] at hd;refine⟨_,_,hd,?_,?_,?_,by omega,by omega,by omega,fun j c' h1 h2 h3=> ?_⟩
  ·simp;omega
  ·simp;omega
  ·simp;omega
  obtain rfl:j=k:=by omega
  rw[hc] at h3;cases h3;exact⟨hbk,h35⟩
 obtain⟨hd1,hd2⟩:=decode_high ⟨s.toArray⟩ k hlt (by rw[hb];omega);obtain⟨hd3,hd4⟩:=Ai ⟨s.toArray⟩ k hlt;generalize Utf8.decode ⟨s.toArray⟩ k=D at*
 obtain⟨r,d⟩:=D;dsimp only at hd1 hd2 hd3 hd4 hle;refine⟨r,d,rfl,?_,?_,?_,hle,hd2,hd3,fun j c' h1 h2 h3=> ?_⟩
 ·simp;omega
 ·simp;omega
 ·simp;omega
 have h128:128<=c'.toNat:=by
  by_cases hjk:j=k
  ·subst hjk;rw[hc] at h3;cases h3;omega
  have:=hd4 (j - k) (by omega) (by omega)
  rwa [show k+(j - k)=j by omega,I5 s j c' h3] at this
 refine⟨?_,fun h=>by subst h;revert h128;decide⟩;simp only[blank,Bool.or_eq_false_iff,beq_eq_false_iff_ne,ne_eq];exact⟨fun h=>by subst h;revert h128;decide,fun h=>by subst h;revert h128;decide⟩
theorem split_ok (w:World)(s:B)(n:Nat)(hs:s.length<=800000000):Calls Tryd.prog 35 #[.string ⟨s.toArray⟩,.int .i64 n] w (qE w s n):=by
 obtain⟨W0,hW0⟩:∃W0,((((w.alloc (.cells #[.string ⟨s.toArray⟩] 9)).alloc (.cells #[.int .i64 n] 3)).alloc (.cells #[.slice none 0 0] 61)).alloc (.cells #[.int .i64 (-1)] 3)).iter ⟨s.toArray⟩ 0=W0:=⟨_,rfl⟩
 have hinv0:nV w s n 0 W0:=by
  rw[<-hW0];refine⟨?_,by omega,by omega,?_,?_⟩
  ·have:=heap_alloc_new ((((w.alloc (.cells #[.string ⟨s.toArray⟩] 9)).alloc (.cells #[.int .i64 n] 3)).alloc (.cells #[.slice none 0 0] 61)).alloc (.cells #[.int .i64 (-1)] 3)) (.stringIter ⟨s.toArray⟩ 0);simp only[World.size_alloc] at this;exact this
  ·refine⟨?_,?_,?_,none,0,?_,?_⟩
   ·exact((((Bk.new w 9 _).alloc _).alloc _).alloc _).alloc _
   ·have:=(((Bk.new (w.alloc (.cells #[.string ⟨s.toArray⟩] 9)) 3 #[.int .i64 n]).alloc (.cells #[.slice none 0 0] 61)).alloc (.cells #[.int .i64 (-1)] 3)).alloc (.stringIter ⟨s.toArray⟩ 0);simp only[World.size_alloc] at this;exact this
   ·have:=(Bk.new (((w.alloc (.cells #[.string ⟨s.toArray⟩] 9)).alloc (.cells #[.int .i64 n] 3)).alloc (.cells #[.slice none 0 0] 61)) 3 #[.int .i64 (-1)]).alloc (.stringIter ⟨s.toArray⟩ 0);simp only[World.size_alloc] at this;exact this
   ·have:=((Bk.new ((w.alloc (.cells #[.string ⟨s.toArray⟩] 9)).alloc (.cells #[.int .i64 n] 3)) 61 #[.slice none 0 0]).alloc (.cells #[.int .i64 (-1)] 3)).alloc (.stringIter ⟨s.toArray⟩ 0);simp only[World.size_alloc] at this;exact this
   simp only[List.take_zero,run,st0,List.foldl_nil,num,abL,ln,jQ,abJ];exact⟨rfl,.inl ⟨rfl,rfl⟩⟩
  exact(((((aa0 _ w).alloc (ag _) _).alloc (by simp) _).alloc (by simp;omega) _).alloc (by simp;omega) _).alloc (by simp;omega) _
 have HW:=hd0 hW0;clear hW0;go_enter Tryd.func35,Tryd.ntmps35
 go_wp2;go_step3;go_wp2;go_step3;go_wp2;rw[HW.out];clear HW;go_loopw [8] (fun l wr=>l= .int .i64 s.length/\∃k,nV w s n k wr) (fun _ wr=>s.length - wr.iterPos (w.heap.size+1+1+1+1))
 case atStart=>exact⟨rfl,0,hinv0⟩
 case round=>
  obtain⟨rfl,k,hit,hk,hno,hbx,hbl⟩:=hrel;clear hinv0;have hpos:=iterPos_of hit;by_cases hlt:k<s.length
  ·obtain⟨c,hc⟩:∃c,s[k]? =some c:=⟨_,aa3 hlt⟩
   have hb:=byte_at s k c hc hlt;by_cases h35:c=35
   ·subst h35;have hcode:=hd0 (wK s k hk hno (fun c' hc'=>by rw[hc] at hc';cases hc';rfl));have hnx:∀ty,(Instr.next (.pointer (some ⟨w.heap.size+1+1+1+1,0,none⟩)) true ty).run Tryd.prog wr=_:=fun ty=>Lib.run_next_ascii_at wr _ ⟨s.toArray⟩ k ty hit hlt (by rw[hb];decide)
    rw[hb] at hnx;have nX:=hbx.iterAt hit (k+1);have qA:=Lib.below_iterAt hbl (k:=w.heap.size+1+1+1+1) (by omega) ⟨s.toArray⟩ (k+1);clear hno hc hb hpos;generalize wr.iterAt (w.heap.size+1+1+1+1) ⟨s.toArray⟩ (k+1)=W1 at*
    go_wp2_with (go_at_call 61;refine(vg _ _ s n k nX hk hs).mono ?_;rintro e W2 ⟨rfl,hbx2,yt,DT⟩;obtain⟨g1,g2,g3,A,c1,g4,g5⟩:=hbx2;have x4:W2.cell? ⟨w.heap.size+1+1,0,none⟩=some (.slice A (num n (run (s.take k)).all).length c1):=g4.cell 0)
    try rw[Exit.noGoto_ret]
    go_ret
    exact wU w W2 s n k _ c1 A hcode.out rfl g5 (qA.trans yt)
   by_cases hbk:blank c=true
   ·have hinv:Hid (∀W2,W2.heap[w.heap.size+1+1+1+1]? =some (.stringIter ⟨s.toArray⟩ (k+1))->aam w.heap.size s n (-1) (num n (run (s.take k)).all) W2->Below w.heap.size w W2->nV w s n (k+1) W2):=by
     intro W2 h1 h2 h3;obtain⟨r1,r2⟩:=EJ s k c hc hbk;refine⟨h1,by omega,fun j d hj hd=> ?_,by rw[r1,r2];exact h2,h3⟩;by_cases hjk:j=k
     ·subst hjk;rw[hc] at hd;cases hd;exact h35
     exact hno j d (by omega) hd
    have hbk2:c=32\/c=9:=by simpa [blank] using hbk
    have hnx:∀ty,(Instr.next (.pointer (some ⟨w.heap.size+1+1+1+1,0,none⟩)) true ty).run Tryd.prog wr=_:=fun ty=>Lib.run_next_ascii_at wr _ ⟨s.toArray⟩ k ty hit hlt (by rw[hb];rcases hbk2 with rfl|rfl<;>decide)
    rw[hb] at hnx;have nX:=hbx.iterAt hit (k+1);have qA:=Lib.below_iterAt hbl (k:=w.heap.size+1+1+1+1) (by omega) ⟨s.toArray⟩ (k+1);have tq:=hd0 (Lib.iterAt_heap wr _ ⟨s.toArray⟩ k (k+1) hit);have DK:=hd0 hpos;clear hno hc hb hpos hbk h35 hit;generalize wr.iterAt (w.heap.size+1+1+1+1) ⟨s.toArray⟩ (k+1)=W1 at*
    rcases hbk2 with rfl|rfl
    all_goals
     go_wp2_with (go_at_call 61;refine(vg _ _ s n k nX hk hs).mono ?_;rintro e W2 ⟨rfl,hbx2,yt,DT⟩)
     go_roundw
     case rel=>exact⟨rfl,k+1,hinv.out W2 (DT.same _ _ tq.out rfl) hbx2 (qA.trans yt)⟩
     case measure=>have h1:=iterPos_of (DT.same _ _ tq.out rfl);rw[h1,DK.out];omega
   have hd1:∃r d:Nat,Utf8.decode ⟨s.toArray⟩ k=(r,d)/\((r:Int)==35)=false/\((r:Int)==32)=false/\((r:Int)==9)=false/\r<=2147483647/\1<=d/\k+d<=s.length/\∀j c,k<=j->j<k+d->s[j]? =some c->blank c=false/\c≠35:=zi s k c hc h35 (by simpa using hbk);obtain⟨r,d,hdec,hr1,hr2,hr3,hr4,hd1,hkd,hseg⟩:=hd1;obtain⟨t1,t2,t3⟩:=KQ s k d hd1 hkd (fun j c h1 h2 h3=>(hseg j c h1 h2 h3).1);have hnx:∀ty,(Instr.next (.pointer (some ⟨w.heap.size+1+1+1+1,0,none⟩)) true ty).run Tryd.prog wr=_:=fun ty=>Lib.run_next_any_at wr _ ⟨s.toArray⟩ k ty hit hlt
   rw[hdec] at hnx;have hinv:Hid (∀W2,W2.heap[w.heap.size+1+1+1+1]? =some (.stringIter ⟨s.toArray⟩ (k+d))->aam w.heap.size s n (if(run (s.take k)).cur=[] then(k:Int) else((run (s.take k)).fr:Int)) (num n (run (s.take k)).told) W2->Below w.heap.size w W2->nV w s n (k+d) W2):=by
    intro W2 h1 h2 h3;refine⟨h1,by omega,fun j e hj he=> ?_,?_,h3⟩
    ·by_cases hjk:j<k
     ·exact hno j e hjk he
     exact(hseg j e (by omega) hj he).2
    rw[vU t2,t1,t3];by_cases hq:(run (s.take k)).cur=[]
    ·simpa [hq] using h2
    simpa [hq] using h2
   have nX:=hbx.iterAt hit (k+d);have qA:=Lib.below_iterAt hbl (k:=w.heap.size+1+1+1+1) (by omega) ⟨s.toArray⟩ (k+d);have tq:=hd0 (Lib.iterAt_heap wr _ ⟨s.toArray⟩ k (k+d) hit);have DK:=hd0 hpos;clear hno hc hb hpos hbk h35 hit hdec hseg t1 t2 t3 hbx hbl;simp only at hnx;generalize wr.iterAt (w.heap.size+1+1+1+1) ⟨s.toArray⟩ (k+d)=W1 at*
   by_cases hq:(run (s.take k)).cur=[]
   ·rw[yF hq] at nX;rw[if_pos hq] at hinv;obtain⟨g1,g2,g3,A,c1,g4,g5⟩:=nX;have x3:W1.cell? ⟨w.heap.size+1+1+1,0,none⟩=some (.int .i64 (-1)):=g3.cell 0;have y3:=g3.frozen 0;have Hq:=hd0 hq;clear hq;have Dl:=hd0 (hinv.out (W1.setCell ⟨w.heap.size+1+1+1,0,none⟩ (.int .i64 k)) ((KeepsOthers.setCell _ _ _).same _ _ tq.out rfl) ⟨g1.far (by simp;omega) _,g2.far (by simp) _,g3.set 0 _,A,c1,g4.far (by simp) _,ownsRow_setCell_below g5 (by simp) _⟩ (qA.setCell (by simp;omega) _));have hm1:=hd0 (iterPos_of ((KeepsOthers.setCell W1 ⟨w.heap.size+1+1+1,0,none⟩ (.int .i64 k)).same _ _ tq.out rfl));clear g1 g2 g3 g4 g5 hinv qA;go_wp2;go_roundw
    case rel=>exact⟨rfl,k+d,Dl.out⟩
    case measure=>rw[hm1.out,DK.out];omega
   rw[vU hq] at nX;rw[if_neg hq] at hinv;have Dl:=hd0 (hinv.out W1 tq.out nX qA);obtain⟨g1,g2,g3,A,c1,g4,g5⟩:=nX;have x3:W1.cell? ⟨w.heap.size+1+1+1,0,none⟩=some (.int .i64 ((run (s.take k)).fr:Int)):=g3.cell 0;clear hq g1 g2 g3 g4 g5 hinv qA;have hm1:=hd0 (iterPos_of tq.out);go_wp2;go_roundw
   case rel=>exact⟨rfl,k+d,Dl.out⟩
   case measure=>rw[hm1.out,DK.out];omega
  obtain rfl:k=s.length:=by omega
  have hcode:=hd0 (wK s s.length hk hno (fun c' hc'=>by rw[abp (ag _)] at hc';cases hc'));have hnx:∀ty,(Instr.next (.pointer (some ⟨w.heap.size+1+1+1+1,0,none⟩)) true ty).run Tryd.prog wr=_:=fun ty=>Lib.run_next_end_at wr _ ⟨s.toArray⟩ s.length ty hit hlt
  clear hno hpos hit;go_wp2_with (go_at_call 61;refine(vg _ _ s n s.length hbx hk hs).mono ?_;rintro e W2 ⟨rfl,hbx2,yt,DT⟩;obtain⟨g1,g2,g3,A,c1,g4,g5⟩:=hbx2;have x4:W2.cell? ⟨w.heap.size+1+1,0,none⟩=some (.slice A (num n (run (s.take s.length)).all).length c1):=g4.cell 0)
  try rw[Exit.noGoto_ret]
  go_ret
  refine wU w W2 s n s.length _ c1 A hcode.out (by rw[aa6]) ?_ (hbl.trans yt);rw[aa6] at g5 ⊢;exact g5
end
section
open Go.ChangeShapes Go.WideShapes Go.Deep Go.Joins Go.RowKit
theorem MV:Tryd.prog.cellsOf 3=1:=by kernel_rfl
section
variable {H:Type} {enc:TypeId×Value->H} {w:World} {base:Nat} {held:Bool}
theorem BZ {fuel:Nat}{c0:Value}{x:DataW H×List MemPlace}(h:DataW.trod enc Tryd.prog w base (fun _=>true) held fuel 22 [c0]=some x):
  ∃(A:Option Addr) (n c:Nat) (zs:List Int),c0= .slice A n c/\n<=c/\c<=maxLen/\Rd w w.heap.size A n 1 (aI zs)/\∀z∈zs,I64 z:=by
 rcases open_ints Tryd.underlying22 Tryd.underlying3 MV h with⟨hcs,_⟩|⟨a,len,cap,zs,hcs,_,hl,hm,hz,_,hcell,hwz⟩
 ·simp only[abO,and_true] at hcs;exact⟨none,0,0,[],hcs,by omega,by simp,Rd.nil _ _ _ _,by simp⟩
 simp only[abO,and_true] at hcs;have hz':zs.length=cap:=by simpa using hz
 have hlen:(aI (zs.take len)).length=len*1:=by rw[aI,aa7,abl,hz'];have:=Nat.min_eq_left hl;omega
 have h64:∀z∈zs.take len,I64 z:=fun z hz=>bounds_i64 (hwz z (List.mem_of_mem_take hz))
 refine⟨some a,len,cap,zs.take len,hcs,hl,hm,⟨hlen,fun hn=> ?_⟩,h64⟩;obtain⟨b,o,s⟩:=a;have h0:=hcell 0 (by omega);have hs:s=none:=by simpa [Addr.add] using World.cell?_spot h0
 subst hs;have hlt:b<w.heap.size:=by rw[addr_add] at h0;exact World.block_lt_of_cell? w _ h0
 refine⟨b,o,rfl,hlt,fun j u hu=> ?_⟩;simp only[aI,cI,abt,Option.map_eq_some_iff] at hu;obtain⟨q,hq,rfl⟩:=hu;rw[abu] at hq;split at hq
 ·have h1:=hcell j (aa2.1 hq).1;rw[addr_add,List.getD_eq_getElem?_getD,hq] at h1;exact h1
 cases hq
theorem Eh {W:World}{r:Reach}{v:Value}{d:DataW H}{p:List MemPlace}(hok:Value.okWide Tryd.prog W r base 22 v)(h:DataW.Trod enc Tryd.prog W 0 (fun _=>true) true 22 v d p):
  ∃(A:Option Addr) (n c:Nat) (zs:List Int),v= .slice A n c/\n<=c/\c<=maxLen/\(Rd W W.heap.size A n 1 (aI zs)/\∀z∈zs,I64 z):=by
 obtain⟨a,len,cap,rfl⟩:=okWide_slice Tryd.underlying22 hok;obtain⟨fuel,hf⟩:=h;exact BZ hf
end
end
section
open Go.RowKit
def vN {H:Type}(ss:List B):DataW H:= .agg (ss.map fun s=> .lit (.string s))
theorem xC {H:Type}{enc:TypeId×Value->H}{P:Program}{w:World}{base:Nat}{sp:Nat->Bool}{held:Bool}{fuel:Nat}{t e:TypeId}{n:Nat}{cs:List Value}{ss:List B}{p:List MemPlace}
  (ht:P.underlying t=some (.array n e)) (he:P.underlying e=some .string) (hce:P.cellsOf e=1) (hct:P.cellsOf t=n)
  (h:DataW.trod enc P w base sp held fuel t cs=some (vN ss,p)):cs=strs ss:=by
 cases fuel with
 |zero=>simp[DataW.trod] at h
 |succ fuel=>
  simp only[DataW.trod,ht,hce,hct,Nat.mul_one] at h;split at h
  ·rename_i hl;obtain⟨xs,hm,hx⟩:=Option.map_eq_some_iff.1 h;have hxs:xs.map (·.1)=ss.map fun s=>(DataW.lit (.string s):DataW H):=by have:=congrArg Prod.fst hx;simpa [vN] using this
   have hxl:xs.length=n:=by simpa using Lib.mapM_length hm
   have hzl:ss.length=n:=by have:=congrArg List.length hxs;simp at this;omega
   apply List.ext_getElem?;intro i;by_cases hi:i<n
   ·obtain⟨b,hb,hf⟩:=Lib.mapM_at hm i i (by simp[hi]);obtain⟨s,hc,rfl,_⟩:=DataW.trod_string he hf;have h1:cs[i]? =some (.string s):=by have:=congrArg (·[0]?) hc;simpa [abu,List.getElem?_drop] using this
    have h2:(xs.map (·.1))[i]? =some (DataW.lit (.string s.data.toList):DataW H):=by simp[hb]
    rw[hxs] at h2;simp only[abt,Option.map_eq_some_iff,DataW.lit.injEq,Lit.string.injEq] at h2;obtain⟨z',hz',hz2⟩:=h2;rw[h1];simp only[strs,abt,hz',Option.map_some,abq,Value.string.injEq];subst hz2;rfl
   rw[abp (by omega),abp (by simp[strs];omega)]
  cases h
def VarReads (P:Program)(w:World)(n:String)(d:DataW Unit):Prop:=∃g t cs fuel p,P.globalNamed n=some g/\(P.globals[g]?).map (·.type)=some t/\w.var? P n=some cs/\DataW.trod (fun _=>()) P w 0 (fun _=>true) false fuel t cs.toList=some (d,p)
theorem mJ {P:Program}{w:World}:∀ {l:List (String×DataW Unit)} {ps:List MemPlace},DataW.LaidVars P w l ps->∀n d,(n,d)∈l->VarReads P w n d
 |[],_,_,_,_,hm=>by cases hm
 |(n',d')::r,ps,h,n,d,hm=>by
  obtain⟨g,t,cs,fuel,p,q,h1,h2,h3,h4,h5,_⟩:=h;rcases abd.1 hm with e|e
  ·cases e;exact⟨g,t,cs,fuel,p,h1,h2,h3,h4⟩
  exact mJ h5 n d e
theorem jG {P:Program}{w:World}{l:List (String×DataW Unit)}(h:laidMet P l w){n:String}{d:DataW Unit}(hm:(n,d)∈l):VarReads P w n d:=
 let ⟨_,hv,_⟩:=h
 mJ hv n d hm
theorem ry {P:Program}{w:World}{n:String}{g:Nat}{cs:Array Value}(hg:P.globalNamed n=some g)(h:w.var? P n=some cs):∃t fz,w.heap[g]? =some (.cells cs t fz):=by
 unfold World.var? at h;rw[hg] at h;simp only[Option.bind_some] at h;split at h
 ·rename_i cs' t fz heq;cases h;exact⟨t,fz,heq⟩
 cases h
theorem pO {P:Program}{w:World}{n:String}{ss:List B}{g:Nat}{t e:TypeId}{m:Nat}(h:VarReads P w n (vN ss))(hg:P.globalNamed n=some g)(hty:(P.globals[g]?).map (·.type)=some t)
  (ht:P.underlying t=some (.array m e)) (he:P.underlying e=some .string) (hce:P.cellsOf e=1) (hct:P.cellsOf t=m):aar w g (strs ss):=by
 obtain⟨g',t',cs,fuel,p,hg',ht',hv,hd⟩:=h;obtain rfl:=Option.some.inj (hg.symm.trans hg');obtain rfl:=Option.some.inj (hty.symm.trans ht');have:=xC ht he hce hct hd;obtain⟨t2,fz,hh⟩:=ry hg hv;exact⟨t2,fz,by rw[hh,<-this]⟩
theorem Gt {P:Program}{w:World}{n:String}{k:IntKind}{zs:List Int}{g:Nat}{t e:TypeId}{m:Nat}(h:VarReads P w n (.agg (zs.map fun z=> .lit (.int k z))))(hg:P.globalNamed n=some g)(hty:(P.globals[g]?).map (·.type)=some t)
  (ht:P.underlying t=some (.array m e)) (he:P.underlying e=some (.int k)) (hce:P.cellsOf e=1) (hct:P.cellsOf t=m):aar w g (zs.map fun z=>Value.int k z):=by
 obtain⟨g',t',cs,fuel,p,hg',ht',hv,hd⟩:=h;obtain rfl:=Option.some.inj (hg.symm.trans hg');obtain rfl:=Option.some.inj (hty.symm.trans ht');have:=Lib.cells_of_tab ht he hce hct hd;obtain⟨t2,fz,hh⟩:=ry hg hv;exact⟨t2,fz,by rw[hh,<-this]⟩
theorem NH {P:Program}{w:World}{n:String}{d:DataW Unit}{g:Nat}(h:VarReads P w n d)(hg:P.globalNamed n=some g):g<w.heap.size:=by obtain⟨g',t',cs,fuel,p,hg',ht',hv,hd⟩:=h;obtain⟨t2,fz,hh⟩:=ry hg hv;exact(aa4.1 hh).1
def PrC (w:World)(g:Nat)(fc:Nat->Value)(ad v:Value):Prop:=Bk w g 96 #[fc 0,fc 1,fc 2,fc 3,fc 4,fc 5,fc 6,fc 7,fc 8,ad,v]
def Pr (w:World)(Bd g:Nat)(fc:Nat->Value)(txt:B):Prop:=∃ad v,Bd<=g/\PrC w g fc ad v/\(ad= .pointer none\/ad= .pointer (some ⟨g,9,none⟩))/\w.ownsRow Bd 5 1 v txt.length (Lib.byteCells txt)
def WQ (w:World)(Bd g:Nat)(fc:Nat->Value)(txt:B):Prop:=∃v,Bd<=g/\PrC w g fc (.pointer (some ⟨g,9,none⟩)) v/\w.ownsRow Bd 5 1 v txt.length (Lib.byteCells txt)
theorem Pr.lt {w:World}{Bd g:Nat}{fc:Nat->Value}{txt:B}(h:Pr w Bd g fc txt):Bd<=g/\g<w.heap.size:=by obtain⟨ad,v,h1,h2,-⟩:=h;exact⟨h1,Bk.lt h2⟩
theorem QK {w:World}{g g':Nat}{t t':TypeId}{cs cs':Array Value}(h:Bk w g t cs)(h':Bk w g' t' cs')(hne:t≠t'):g≠g':=by
 rintro rfl;have a1:w.heap[g]? =_:=h;have a2:w.heap[g]? =_:=h';rw[a1] at a2;injection a2 with a3
 injection a3 with _ a4
 exact hne a4
theorem vS {w:World}{base:Nat}{e t:TypeId}{s:Nat}{v:Value}{n:Nat}{xs:List Value}(h:w.ownsRow base e s v n xs){g:Nat}{cs:Array Value}(hb:Bk w g t cs)(hne:e≠t):v.ownBlock≠some g:=by intro e';obtain⟨cur,hk⟩:=dh h g e';exact QK hk hb hne rfl
theorem nU {w:World}{base:Nat}{e t:TypeId}{s:Nat}{v:Value}{n:Nat}{xs:List Value}(h:w.ownsRow base e s v n xs){g:Nat}{cs:Array Value}(hb:Bk w g t cs)(hne:e≠t)(i:Nat)(u:Value):(w.setCell ⟨g,i,none⟩ u).ownsRow base e s v n xs:=h.kept (row:=some g) (aV (p:=⟨g,i,none⟩) (World.grownBy.refl _ _) (.inl rfl) _) (.inr (vS h hb hne))
theorem KP.store {w:World}{g:Nat}{cs:Array Value}(h:Bk w g 96 cs)(i:Nat)(u:Value):KP w (w.setCell ⟨g,i,none⟩ u):=
 ⟨fun b o hb hn=>by
  refine(Below.heap_setCell w ⟨g,i,none⟩ u b ?_).trans hb;rintro rfl;have h1:w.heap[b]? =_:=h;rw[h1] at hb;injection hb with hb
  subst hb;exact hn.2 rfl,by simp⟩
theorem KP.grown {w w':World}{base n:Nat}{v:Value}{xs:List Value}(ho:w.ownsRow base 5 1 v n xs)(hg:w.grownBy w' v.ownBlock):KP w w':=
 ⟨fun b o hb hn=>by
  refine(hg.block b (aa4.1 hb).1 ?_).trans hb;intro e;obtain⟨cur,hk⟩:=dh ho b e.symm;have h1:w.heap[b]? =_:=hk;rw[h1] at hb;injection hb with hb
  subst hb;exact hn.1 rfl,hg.size⟩
theorem infoByte:(Tryd.prog.info? 5).map (fun i=>(i.zero,i.size,i.bytes))=some (some (.int .u8 0),1,1):=by kernel_rfl
theorem sizeBuilder:(Tryd.prog.info? 94).map (fun i=>i.size)=some 2:=by kernel_rfl
theorem liesBuilder:liesAt Tryd.prog Tryd.prog.depth 96 (11 / Tryd.prog.cellsOf 96) 9 94 1=true:=by kernel_rfl
theorem PrC.shape {w:World}{g:Nat}{fc:Nat->Value}{ad v:Value}(h:PrC w g fc ad v):w.shape? g=some (96,11):=by unfold PrC Bk at h;simp[World.shape?,h]
theorem BX (g:Nat)(w:World)(h0:w.cell? ⟨g,9,none⟩=some (.pointer (some ⟨g,9,none⟩))):
  Calls Tryd.prog 65 #[.pointer (some ⟨g,9,none⟩)] w fun e w'=>e= .returned (.tuple #[])/\w=w':=by
 obtain⟨j,hj,_⟩:=Option.map_eq_some_iff.1 sizeBuilder;go_enter Tryd.func65,Tryd.ntmps65
 go_wp2;rw[Lib.run_neq_ptr_same w _ Tryd.underlying91 hj];go_wp2
 go_end0
 exact⟨rfl,rfl⟩
theorem zW (g:Nat)(w:World)(fc:Nat->Value)(v:Value)(h:PrC w g fc (.pointer none) v):
  Calls Tryd.prog 65 #[.pointer (some ⟨g,9,none⟩)] w fun e w'=>e= .returned (.tuple #[])/\w'=w.setCell ⟨g,9,none⟩ (.pointer (some ⟨g,9,none⟩)):=by
 obtain⟨j,hj,hjs⟩:=Option.map_eq_some_iff.1 sizeBuilder;have h0:w.cell? ⟨g,9,none⟩=some (.pointer none):=h.cell 9;have hfz:w.frozen? ⟨g,9,none⟩=false:=h.frozen 9;have hsh:=h.shape;go_enter Tryd.func65,Tryd.ntmps65
 go_wp2;rw[Lib.run_to_unsafe w ⟨g,9,none⟩ Tryd.underlying91 Tryd.underlying167 hj (by rw[hjs];decide) hsh (show 9<11 by decide)];simp only[Result.andThen];rw[Oper.upon_value];go_wp2;rw[run_callFunc_extern Tryd.func90 (by kernel_rfl) (by kernel_rfl) (by kernel_rfl) (e:=Extern.AbiNoEscape.same) (by kernel_rfl)];rw[Lib.run_noEscape];simp only[Result.andThen];rw[Oper.upon_value];go_wp2;rw[Lib.run_from_unsafe w ⟨g,9,none⟩ Tryd.underlying167 Tryd.underlying91 hj hsh liesBuilder];simp only[Result.andThen];rw[Oper.upon_value];go_wp2
 go_end0
 exact⟨rfl,rfl⟩
theorem zu (w:World)(Bd g:Nat)(fc:Nat->Value)(txt:B)(h:Pr w Bd g fc txt):
  Calls Tryd.prog 65 #[.pointer (some ⟨g,9,none⟩)] w fun e w'=>e= .returned (.tuple #[])/\WQ w' Bd g fc txt/\KP w w'/\Below Bd w w':=by
 obtain⟨ad,v,h1,h2,h3|h3,h4⟩:=h
 ·subst h3;refine(zW g w fc v h2).mono ?_;rintro e w' ⟨rfl,rfl⟩;refine⟨rfl,⟨v,h1,?_,nU h4 h2 (by decide) _ _⟩,KP.store h2 _ _,(aa0 _ _).setCell (p:=⟨g,9,none⟩) h1 _⟩;have:=Bk.set h2 9 (.pointer (some ⟨g,9,none⟩));exact this
 subst h3;refine(BX g w (Bk.cell h2 9)).mono ?_;rintro e w' ⟨rfl,rfl⟩;exact⟨rfl,⟨v,h1,h2,h4⟩,KP.refl _,aa0 _ _⟩
theorem oM (a b:B):Lib.byteCells (a++b)=Lib.byteCells a++Lib.byteCells b:=by simp[Lib.byteCells]
theorem qw (w:World)(Bd g:Nat)(fc:Nat->Value)(txt:B)(c:UInt8)(h:Pr w Bd g fc txt)(hlen:txt.length<=1000000000000):
  Calls Tryd.prog 43 #[.pointer (some ⟨g,9,none⟩),.int .u8 c.toNat] w fun e w'=>e= .returned .nilIface/\Pr w' Bd g fc (txt++[c])/\KP w w'/\Below Bd w w':=by
 obtain⟨i0,hi,hz0,hz1,hz2⟩:=info_parts infoByte;have hlt:=h.lt;go_enter Tryd.func43,Tryd.ntmps43
 go_wp2_with (go_at_call 65;refine(zu _ Bd g fc txt h).mono ?_)
 rintro e w1 ⟨rfl,⟨v,hB,hbk,hown⟩,hk1,hb1⟩;have hs1:=hb1.size;have c1:w1.cell? ⟨g,10,none⟩=some v:=Bk.cell hbk 10;go_wp2_with (at_builtin;refine wpList_append_own _ rfl _ _ 92 rfl Bd 5 i0 (.int .u8 0) 1 1 Tryd.underlying92 hi hz0 hz1 hz2 rfl (by decide) _ _ _ rfl (hown.alloc _) ⟨w1.heap.size,0,none⟩ 1 1 [.int .u8 c.toNat] rfl rfl ?c1 ?c2 ?c3 ?c4 ?c5 ?_)
 case c1=>
  intro j u hj
  match j,hj with
  |0,hj=>simp at hj;subst hj;simp[Addr.add]
 case c2=>intro u hu;simp at hu;subst hu;rfl
 case c3=>unfold maxLen;omega
 case c4=>omega
 case c5=>simp;omega
 intro v' w2 hown' hgrow _;have hlt1:=Bk.lt hbk;have Vh:=Bk.alloc hbk (.cells #[.int .u8 c.toNat] 5);have hbk2:PrC w2 g fc (.pointer (some ⟨g,9,none⟩)) v:=(hgrow.block g (by simp;omega) (fun e=>vS hown hbk (by decide) e.symm)).trans Vh;have d1:w2.cell? ⟨g,10,none⟩=some v:=Bk.cell hbk2 10;have f1:w2.frozen? ⟨g,10,none⟩=false:=Bk.frozen hbk2 10;have HB:=hd0 hbk2;obtain⟨g',cap,rfl⟩:∃g' cap,v'= .slice (some ⟨g',0,none⟩) (txt.length+1) cap:=by
  rcases hown'.2 with⟨_,h0⟩|⟨g',cap,cur,hv,_⟩
  ·omega
  exact⟨g',cap,hv⟩
 go_wp2;go_ret
 refine⟨rfl,⟨_,_,hB,Bk.set HB.out 10 _,.inr rfl,?_⟩,?_,?_⟩
 ·refine nU ?_ HB.out (by decide) _ _;rw[oM,la];simpa [Lib.byteCells] using hown'
 ·exact((hk1.trans (KP.alloc _ _)).trans (KP.grown (hown.alloc _) hgrow)).trans (KP.store HB.out _ _)
 exact((hb1.alloc (by omega) _).grown hgrow (by simp;omega) (fun k hk=>(hown.lt k hk).1)).setCell (p:=⟨g,10,none⟩) hB _
theorem mV (w:World)(Bd g:Nat)(fc:Nat->Value)(txt s:B)(h:Pr w Bd g fc txt)(hlen:txt.length+s.length<=1000000000000):
  Calls Tryd.prog 42 #[.pointer (some ⟨g,9,none⟩),.string ⟨s.toArray⟩] w fun e w'=>e= .returned (.tuple #[.int .i64 s.length,.nilIface])/\Pr w' Bd g fc (txt++s)/\KP w w'/\Below Bd w w':=by
 obtain⟨i0,hi,hz0,hz1,hz2⟩:=info_parts infoByte;have hlt:=h.lt;go_enter Tryd.func42,Tryd.ntmps42
 go_wp2_with (go_at_call 65;refine(zu _ Bd g fc txt h).mono ?_)
 rintro e w1 ⟨rfl,⟨v,hB,hbk,hown⟩,hk1,hb1⟩;have hs1:=hb1.size;have c1:w1.cell? ⟨g,10,none⟩=some v:=Bk.cell hbk 10;go_wp2_with (at_builtin;refine Lib.wpList_append_own_string _ rfl _ _ 92 9 rfl Bd 5 i0 Tryd.underlying92 Tryd.underlying9 hi hz0 hz1 hz2 _ _ _ rfl hown ⟨s.toArray⟩ rfl ?c3 ?c4 ?c5 ?_)
 case c3=>
  have e:(⟨s.toArray⟩:ByteArray).size=s.length:=by rfl
  rw[e];unfold maxLen;omega
 case c4=>
  have e:(⟨s.toArray⟩:ByteArray).size=s.length:=by rfl
  rw[e];omega
 case c5=>omega
 intro v' w2 hown' hgrow _;have hlt1:=Bk.lt hbk;have hbk2:PrC w2 g fc (.pointer (some ⟨g,9,none⟩)) v:=(hgrow.block g hlt1 (fun e=>vS hown hbk (by decide) e.symm)).trans hbk;have d1:w2.cell? ⟨g,10,none⟩=some v:=Bk.cell hbk2 10;have f1:w2.frozen? ⟨g,10,none⟩=false:=Bk.frozen hbk2 10;have HB:=hd0 hbk2;obtain⟨ao,n',cap,rfl⟩:∃ao n' cap,v'= .slice ao n' cap:=by
  rcases hown'.2 with⟨hv,_⟩|⟨g',cap,cur,hv,_⟩
  ·exact⟨_,_,_,hv⟩
  exact⟨_,_,_,hv⟩
 go_wp2
 go_ret2
 refine⟨rfl,⟨_,_,hB,Bk.set HB.out 10 _,.inr rfl,?_⟩,?_,?_⟩
 ·refine nU ?_ HB.out (by decide) _ _;rw[oM,la];have e:Lib.strCells ⟨s.toArray⟩=Lib.byteCells s:=by simp[Lib.strCells,Lib.byteCells]
  rw[e] at hown';simpa using hown'
 ·exact(hk1.trans (KP.grown hown hgrow)).trans (KP.store HB.out _ _)
 exact(hb1.grown hgrow (by omega) (fun k hk=>(hown.lt k hk).1)).setCell (p:=⟨g,10,none⟩) hB _
theorem DZ (w:World)(Bd g:Nat)(fc:Nat->Value)(l:B)(h:Pr w Bd g fc l)(h0:l≠[]):
  Calls Tryd.prog 28 #[.pointer (some ⟨g,9,none⟩)] w fun e w'=>e= .returned (.string ⟨l.toArray⟩)/\Below Bd w w':=by
 obtain⟨ad,v,hB,hbk,-,hown⟩:=h;have hl0:l.length≠0:=by simpa using h0
 obtain⟨q,cap,cur,rfl,hbg,hg,hnc,hcm,hcs,htake⟩:∃q cap cur,v= .slice (some ⟨q,0,none⟩) l.length cap/\Bd<=q/\w.heap[q]? =some (.cells cur 5 (0,0))/\l.length<=cap/\cap<=maxLen/\cur.size=cap*1/\cur.toList.take (l.length*1)=Lib.byteCells l:=by
  rcases hown.2 with⟨_,hz⟩|⟨q,cap,cur,hv,r⟩
  ·exact absurd hz hl0
  exact⟨q,cap,cur,hv,r⟩
 have c1:w.drew.cell? ⟨g,10,none⟩=some (.slice (some ⟨q,0,none⟩) l.length cap):=Bk.cell hbk 10;have hSD:(Builtin.unsafeSliceData_ #[92] 132 #[.slice (some ⟨q,0,none⟩) l.length cap]).run Tryd.prog w.drew= .ok (.pointer (some ⟨q,0,none⟩)) w.drew:=Lib.run_unsafeSliceData_row _ _ _ _ _ _ (by omega);have hUS:(Builtin.unsafeString_ #[132,3] 9 #[.pointer (some ⟨q,0,none⟩),.int .i64 l.length]).run Tryd.prog w.drew= .ok (.string ⟨l.toArray⟩) (w.drew.freeze ⟨q,0,none⟩ l.length):=by refine Lib.run_unsafeString_row w.drew 132 3 9 5 Tryd.underlying132 (by kernel_rfl) q cur.size (by have hg':w.drew.heap[q]? =some (.cells cur 5 (0,0)):=hg;simp[World.shape?,hg']) l h0 (by omega) (by unfold maxLen at hcm;omega) ?_;intro j x hx;have:=hown.cells (g:=q) rfl j (.int .u8 x.toNat) (by simp[Lib.byteCells,hx]);exact this
 go_enter Tryd.func28,Tryd.ntmps28
 go_wp2;go_region
 all_goals (go_wp2;go_ret;exact⟨rfl,Lib.below_freeze (Below.drew (aa0 Bd w)) (p:=⟨q,0,none⟩) hbg _⟩)
def ElT (e t:TypeId)(size:Nat):Prop:=∃i z,Tryd.prog.underlying t=some (.slice e)/\Tryd.prog.info? e=some i/\i.zero=some z/\i.size=size/\z.cells.size=size/\i.bytes<=1000/\0<size
theorem ElT.mk {e t:TypeId}{size:Nat}(ht:Tryd.prog.underlying t=some (.slice e))(h:(Tryd.prog.info? e).map (fun i=>(i.zero.map (fun z=>z.cells.size),i.size,decide (i.bytes<=1000)))=some (some size,size,true))(hs:0<size):ElT e t size:=by obtain⟨i,hi,he⟩:=Option.map_eq_some_iff.1 h;simp only[abM,decide_eq_true_eq] at he;obtain⟨z,hz,hc⟩:=Option.map_eq_some_iff.1 he.1;exact⟨i,z,ht,hi,hz,he.2.1,hc,he.2.2,hs⟩
theorem jC:ElT 3 22 1:= .mk Tryd.underlying22 (by kernel_rfl) (by decide)
theorem Dx:ElT 22 75 1:= .mk Tryd.underlying75 (by kernel_rfl) (by decide)
theorem QX:ElT 72 55 2:= .mk Tryd.underlying55 (by kernel_rfl) (by decide)
theorem Oc:ElT 55 30 1:= .mk Tryd.underlying30 (by kernel_rfl) (by decide)
theorem UW:ElT 146 49 3:= .mk Tryd.underlying49 (by kernel_rfl) (by decide)
theorem NK:ElT 66 52 3:= .mk Tryd.underlying52 (by kernel_rfl) (by decide)
theorem NY:ElT 68 53 4:= .mk Tryd.underlying53 (by kernel_rfl) (by decide)
theorem Kw:ElT 70 54 4:= .mk Tryd.underlying54 (by kernel_rfl) (by decide)
theorem LC:ElT 57 24 9:= .mk Tryd.underlying24 (by kernel_rfl) (by decide)
theorem OG:ElT 74 25 2:= .mk Tryd.underlying25 (by kernel_rfl) (by decide)
theorem EG:ElT 80 76 2:= .mk Tryd.underlying76 (by kernel_rfl) (by decide)
theorem OY:ElT 78 58 6:= .mk Tryd.underlying58 (by kernel_rfl) (by decide)
theorem Ol:ElT 60 26 3:= .mk Tryd.underlying26 (by kernel_rfl) (by decide)
theorem Pi:ElT 82 27 2:= .mk Tryd.underlying27 (by kernel_rfl) (by decide)
theorem MO:ElT 84 28 4:= .mk Tryd.underlying28 (by kernel_rfl) (by decide)
theorem Io:ElT 89 29 1:= .mk Tryd.underlying29 (by kernel_rfl) (by decide)
theorem NZ:ElT 86 87 3:= .mk Tryd.underlying87 (by kernel_rfl) (by decide)
abbrev Loc (w:World)(v v':Value):Prop:=v'.ownBlock=v.ownBlock\/∀g,v'.ownBlock=some g->w.heap.size<=g
theorem vk {e t size:Nat}(E:ElT e t size)(ty:TypeId)(w1:World)(base n c:Nat)(A:Option Addr)(xs:List Value)(hown:w1.ownsRow base e size (.slice A n c) n xs)
  (Bd:Nat) (A2:Option Addr) (m c2:Nat) (news:List Value) (hr:Rd w1 Bd A2 m size news) (h1:∀u∈news,u.oneCell'=true) (hn:n+m<=100000000000) (hb:base<=w1.heap.size):
  ∃A' c' w',(Builtin.append_ #[t,t] ty #[.slice A n c,.slice A2 m c2]).run Tryd.prog w1= .ok (.slice A' (n+m) c') w'/\w'.ownsRow base e size (.slice A' (n+m) c') (n+m) (xs++news)/\w1.grownBy w' (Value.slice A n c).ownBlock/\Loc w1 (.slice A n c) (.slice A' (n+m) c'):=by
 obtain⟨i,z,ht,hi,hz,hs,hzs,hby,hsz⟩:=E;have hbytes:(n+m)*i.bytes<=140737488355328:=nt (Nat.mul_le_mul hn hby) (by decide);obtain⟨v',w',hrun,ho,hg,hl⟩:=iF (P:=Tryd.prog) w1 base t ty e i z size i.bytes ht hi hz hs rfl hzs hsz (.slice A n c) n xs hown Bd A2 m c2 news hr h1 (by simp only[maxLen];omega) hbytes hb;obtain⟨A',c',rfl⟩:=Gm ho;refine⟨A',c',w',hrun,ho,hg,?_⟩;rcases hl with hl|hl
 ·exact .inl hl
 exact .inr (fun g e=>by rw[hl] at e;injection e with e;omega)
section
variable {e t size:Nat} {ops:Array Oper} {rest:List Oper} {o:Oper} {a:Act} {Q:Exit->Act->World->Prop}
theorem Jf (E:ElT e t size)(hgd:o.guard=none)(s x:Operand)(ho:o.op= .call {callee:= .builtin .append,args:= #[s,x],argTypes:= #[t,t]})
  (w1:World) (base n c:Nat) (A:Option Addr) (xs:List Value) (Bd:Nat) (A2:Option Addr) (m c2:Nat) (news:List Value) (hs:a.eval s= .slice A n c) (hx:a.eval x= .slice A2 m c2)
  (hown:w1.ownsRow base e size (.slice A n c) n xs) (hr:Rd w1 Bd A2 m size news) (h1:∀u∈news,u.oneCell'=true) (hn:n+m<=100000000000) (hb:base<=w1.heap.size)
  (h:∀A' c' w',w'.ownsRow base e size (.slice A' (n+m) c') (n+m) (xs++news)->w1.grownBy w' (Value.slice A n c).ownBlock->Loc w1 (.slice A n c) (.slice A' (n+m) c')->wpList Tryd.prog ops Q rest (a.put o.dst (.slice A' (n+m) c')) w'):
  wpList Tryd.prog ops Q (o::rest) a w1:=by
 obtain⟨A',c',w',hrun,h2,h3,h4⟩:=vk E o.type w1 base n c A xs hown Bd A2 m c2 news hr h1 hn hb;refine wpList_plain hgd fun K hK=> ?_
 unfold Oper.wp execOp;simp only[ho,resolve,invoke,builtin,Sem.run_bind,Sem.run_pure,Result.andThen_ok,List.map_toArray,aba,abL,hs,hx,hrun];exact hK _ _ (h A' c' w' h2 h3 h4)
theorem pq (E:ElT e t size)(hgd:o.guard=none)(s x:Operand)(ho:o.op= .call {callee:= .builtin .append,args:= #[s,x],argTypes:= #[t,t]})
  (w1:World) (hsz:Nat) (hh:w1.heap.size=hsz) (base n c:Nat) (A:Option Addr) (xs:List Value) (news:Array Value) (hnl:news.size=size) (hs:a.eval s= .slice A n c) (hx:a.eval x= .slice (some ⟨hsz,0,none⟩) 1 1)
  (hown:w1.ownsRow base e size (.slice A n c) n xs) (h1:∀u∈news.toList,u.oneCell'=true) (hn:n<=10000000000) (hb:base<=w1.heap.size)
  (h:∀A' c' w',w'.ownsRow base e size (.slice A' (n+1) c') (n+1) (xs++news.toList)->w1.grownBy w' (Value.slice A n c).ownBlock->Loc w1 (.slice A n c) (.slice A' (n+1) c')->wpList Tryd.prog ops Q rest (a.put o.dst (.slice A' (n+1) c')) w'):
  wpList Tryd.prog ops Q (o::rest) a (w1.alloc (.cells news e)):=by
 subst hh;refine Jf E hgd s x ho _ base n c A xs (w1.heap.size+1) (some ⟨w1.heap.size,0,none⟩) 1 1 news.toList hs hx (hown.alloc _) (Rd.newAt _ _ rfl news e 1 size (by omega)) h1 (by omega) (by simp;omega) ?_;intro A' c' w' h2 h3 h4;refine h A' c' w' h2 ⟨h3.os,h3.tape,h3.output,nt (by simp) h3.size,fun i hi hne=> ?_⟩ (h4.imp id fun h5 g hg=>by have:=h5 g hg;simp at this;omega);exact(h3.block i (by simp;omega) hne).trans (Below.heap_alloc _ _ _ hi)
end
end
end Go.Proofs.YtkijckccfookeaaDoor
