/- Lemmas. -/
import Derived.Test.YtalehhjjbadlpaaGreatDoorX24
set_option linter.all false
set_option maxRecDepth 100000
set_option maxHeartbeats 32000000
namespace Go.Proofs.YtalehhjjbadlpaaGreatDoor
open Go.RowKit
variable{f:List hU}(w:World){v:iu}{m:Nat}{r:k'}
theorem Uq:(Tryz.prog.info? 4).map (λi=>(i.zero,i.size,i.bytes))=some (some (.bool false),1,1):=by kernel_rfl
theorem Oq (n:Nat)(i:n<=100000)(w:World):(Instr.makeSlice 158 (.int .i64 (n:Int)) (.int .i64 (n:Int))).run Tryz.prog w=.ok (.slice (w,0) n n) (w.alloc (.cells (zk (List.replicate n false)).toArray 4)):=by
 obtain⟨g,a,b,c,d⟩:=info_parts Uq;have f:=run_make (P:=Tryz.prog) w 158 4 g _ Tryz.underlying158 a b .i64 .i64 n n (by omega) (by omega) (by rw[d];omega) (by omega);simp only[Int.toNat_natCast]at f;rw[c]at f;rw[f];have e:madeCells (Value.bool false).cells (n*1)=(zk (List.replicate n false)).toArray:=by have h:=toList_madeCells_one (.bool false) (n*1);apply Array.toList_inj.1;rw[show(Value.bool false).cells=#[.bool false]from rfl,h,Nat.mul_one];simp[zk]
 rw[e]
theorem Mj {α:Type}{R:Rel α}(a:R.Ok){w:World}{A:Option Addr}{e:List α}(h:Sl R m w (Lw w) A e)(o:Obj):Sl R m (w.drew.alloc o) (λb=>b<w) A e:=h.keep a λb c=>Below.heap_alloc w.drew o b c
theorem Ks (n j:Nat):¬qA (List.replicate n false) j:=by unfold qA;rw[List.getElem?_replicate];split<;>simp
def ub (c:List hU)(q:Nat):Prop:=∀a b x y,a<b->b<q->c[a]?=some x->c[b]?=some y->x.gn≠y.gn
structure uc (f:iu):Prop where
 i:f.ga.length<=400
 each:∀g∈f.ga,tm f.ga.length f.d'.length g
 apart:ub f.ga f.ga.length
theorem uc.kids (h:∀g∈v.ga,tm v.ga.length v.d'.length g):KT v.ga:=λg a=>⟨(h g a).gi.1,λp b=>((h g a).gi.2 p b).1⟩
theorem ub.nodup (h:ub f f.length):(f.map (·.gn)).Nodup:=by rw[List.Nodup,List.pairwise_map,List.pairwise_iff_getElem];intro a b e d c;exact h a b _ _ c d (jO e) (jO d)
theorem Zf (f:iu)(A1 A2 A3 A4 A5 O Q R:Option Addr)(c1 c2 c3 c4 c5 S T U:Nat)(hF:oS ⟨A1,c1,A2,c2,A3,c3,A4,c4,A5,c5,O,S,Q,T,R,U⟩ f w)(ac:ip f.ga.length)(ar:ip f.d'.length)(ad:∀g∈f.ga,tT g):Calls Tryz.prog 35 #[.agg #[f.gt,A1 f.ga.length c1,A2 f.f6.length c2,A3 f.ge.length c3,A4 f.a'.length c4,A5 f.gM.length c5,O f.d'.length S,Q f.fY.length T,R f.gP.length U]] w (Ju w (uc f)):=by
 obtain⟨P,HP⟩:∃P:Prop,Hid (P=(uc f)):=⟨_,rfl⟩
 rw[<-HP.out];have av:=ac;unfold ip at av;obtain⟨Wf,aw,aa,bV⟩:=aO w 32 #[f.gt,A1 f.ga.length c1,A2 f.f6.length c2,A3 f.ge.length c3,A4 f.a'.length c4,A5 f.gM.length c5,O f.d'.length S,Q f.fY.length T,R f.gP.length U];have V:Hid (Below w w Wf):=J aa;have oq:=J (hF.below aa);obtain⟨c,qE,W,L⟩:=aO Wf 83 #[.int .i64 0,.int .i64 0];have M:Hid (Below w w c):=J (V.trans (W.mono V.size));have d:=J L;have n:Hid (Bk c w.heap.size 32 #[f.gt,A1 f.ga.length c1,A2 f.f6.length c2,A3 f.ge.length c3,A4 f.a'.length c4,A5 f.gM.length c5,O f.d'.length S,Q f.fY.length T,R f.gP.length U]):=J (Bk.l bV W);have X:=J (oq.below W);have p:=M.size;have qy:Hid (Below c c c):=J (gD _ _);have u:=n.cell 0;have v:=n.cell 1;have A:=n.cell 2;have B:=n.cell 3;have C:=n.cell 4;have D:=n.cell 5;have E:=n.cell 6;have F:=n.cell 7;have G:=n.cell 8;have H:=L.cell 0;have I:=L.cell 1;have ak:=L.frozen 0;have K:=L.frozen 1;clear hF aa bV W L oq;go_enter Tryz.func35,Tryz.ntmps35
 by_cases h0:f.ga.length=0
 .have b0:((f.ga.length:Int)==0)=true:=by rw[h0];rfl
  clear h0;go_wp2_with fail
  exact bI rfl d qy V.size M _ _ rfl (λh=>absurd h (by decide))
 have b0:((f.ga.length:Int)==0)=false:=fM (by omega);by_cases h1:400<f.ga.length
 .have aD:decide ((400:Int)<f.ga.length)=true:=decide_eq_true (by omega);go_wp2_with fail
  exact bI rfl d qy V.size M _ _ rfl (λh=>absurd h (by decide))
 have aD:decide ((400:Int)<f.ga.length)=false:=decide_eq_false (by omega);have Yj:f.ga.length<=400:=by omega
 go_wp2_with fail
 try clear aw
 try clear qE
 go_loopw [3] (λi wr=>∃q:Nat,q<=f.ga.length/\i=.int .i64 q/\Hid (Up f.ga q (tm f.ga.length f.d'.length)/\ub f.ga q)/\Below c c wr) (λi _=>f.ga.length - (intOf i).toNat)
 case atStart=>exact⟨0,by omega,rfl,J ⟨Up.zero _ _,λa b x y _ h=>by omega⟩,gD _ _⟩
 case round=>
  obtain⟨w5,rfl⟩:∃x,x=wr:=⟨_,rfl⟩
  obtain⟨q,hq,rfl,l,m⟩:=hrel;have fQ:Hid (Below c c w5):=J m;clear u v A B C D E F G H I ak K;obtain⟨u,v,A,B,C,D,E,F,G⟩:=nine n m;have H:=d.at m 0 rfl;have I:=d.at m 1 rfl;have ak:=(d.l m).frozen 0;have K:=(d.l m).frozen 1;by_cases t:q<f.ga.length
  .obtain⟨x,hx⟩:∃x,f.ga[q]?=some x:=⟨_,jO t⟩
   have Hx:=J hx;have Z:=J (Fx w5 f A1 A2 A3 A4 A5 O Q R c1 c2 c3 c4 c5 S T U q (X.below m) x hx t ac ar (ad x (kj hx)));clear m hx;go_wp2_with fail
   refine Z.mono ?_;rintro e w6 ⟨r6,rfl,yB,wH⟩;have o:Below c c w6:=fQ.trans (wH.mono fQ.size);have iM:Hid (Below c c w6):=J o;have E6:Hid (Below w w w6):=J (M.trans (o.mono p));clear u v A B C D E F G H I ak K;obtain⟨u,v,A,B,C,D,E,F,G⟩:=nine n o;have H:=d.at o 0 rfl;have I:=d.at o 1 rfl;have ak:=(d.l o).frozen 0;have K:=(d.l o).frozen 1;clear Z o wH;by_cases hr:r6=0
   .have dN:Hid (Up f.ga (q+1) (tm f.ga.length f.d'.length)/\ub f.ga (q+1)):=J ⟨l.1.snoc Hx (yB hr).1,λa b x' y' al hb ao ab=>by
     by_cases aE:b=q
     .subst aE;rw[Hx.out]at ab;cases ab;exact(yB hr).2 a x' al ao
     exact l.2 a b x' y' al (by omega) ao ab⟩
    clear yB;subst hr;go_wp2_with fail
    go_roundw
    case rel=>exact⟨q+1,by omega,by simp,dN,iM⟩
    case measure=>simp[intOf];omega
   clear yB;have VW:(r6 !=0)=true:=iP hr;go_wp2_with fail
   exact bI rfl d iM V.size E6 _ _ rfl (λh=>absurd h hr)
  obtain rfl:q=f.ga.length:=by omega
  have HE:=J (λx (hx:x∈f.ga)=>l.1.all x hx);have HA:=J l.2;have HK:=J (uc.kids HE);clear l m;go_wp2_with fail
  go_loopw [5] (λi wr=>∃q:Nat,q<=f.ga.length/\i=.int .i64 q/\Hid (∀j,j<q->¬Way f.ga j j)/\Below c c wr) (λi _=>f.ga.length - (intOf i).toNat)
  case atStart=>exact⟨0,by omega,rfl,J (λj h=>by omega),fQ⟩
  case round=>
   obtain⟨w7,rfl⟩:∃x,x=wr:=⟨_,rfl⟩
   obtain⟨q,hq,rfl,l,k⟩:=hrel;have oV:Hid (Below c c w7):=J k;clear u v A B C D E F G H I ak K;obtain⟨u,v,A,B,C,D,E,F,G⟩:=nine n k;have H:=d.at k 0 rfl;have I:=d.at k 1 rfl;have ak:=(d.l k).frozen 0;have K:=(d.l k).frozen 1;by_cases t:q<f.ga.length
   .have kZ:Hid (Below c c w7.drew):=J oV.drew;have S7:=nine n kZ;have aL:=Oq f.ga.length (by omega) w7.drew;have VK:=J (X.below k).ga;clear k;go_wp2_with fail
    go_region_held3 (λY=>Y.cell? (w,0)=some (.int .i64 f.gt)/\Y.cell? (w,1)=some (A1 f.ga.length c1)/\Y.cell? (w,2)=some (A2 f.f6.length c2)/\Y.cell? (w,3)=some (A3 f.ge.length c3)/\Y.cell? (w,4)=some (A4 f.a'.length c4)/\Y.cell? (w,5)=some (A5 f.gM.length c5)/\Y.cell? (w,6)=some (O f.d'.length S)/\Y.cell? (w,7)=some (Q f.fY.length T)/\Y.cell? (w,8)=some (R f.gP.length U))
     (first
      |with_reducible exact S7
      |exact nine n (kZ.alloc kZ.size _)
      |with_reducible exact S9)
     (first
      |(go_at_call 78;refine(Y9 f A1 A2 A3 A4 A5 O Q R c1 c2 c3 c4 c5 S T U w7.heap.size q Yj HK (yz (List.replicate f.ga.length false)+1) _ q w7.heap.size f.ga.length (List.replicate f.ga.length false) (Nat.lt_succ_self _) t (by simp) (ae _) (Mj iA.ok VK _) (Bk.new w7.drew _ _)).mono ?_;rintro e w9 ⟨b9,m9,rfl,WB,-,-,ay⟩;have gV:Hid (Below c c w9):=J ((kZ.alloc kZ.size _).grown ay (kZ.alloc kZ.size _).size (λg hg=>by cases hg;exact oV.size));have S9:=nine n gV;clear ay)
      |fail "no arm")
    clear S7 S9 aL;have bf:=gV.out;clear gV;have gV:Hid (Below c c w9):=J bf;have E9:Hid (Below w w w9):=J (M.trans (bf.mono p));clear u v A B C D E F G H I ak K;obtain⟨u,v,A,B,C,D,E,F,G⟩:=nine n bf;have H:=d.at bf 0 rfl;have I:=d.at bf 1 rfl;have ak:=(d.l bf).frozen 0;have K:=(d.l bf).frozen 1;clear bf;cases b9
    .have dN:Hid (∀j,j<q+1->¬Way f.ga j j):=J λj hj=>by
      by_cases aM:j=q
      .subst aM;exact WB.none (Ks _)
      exact l j (by omega)
     clear WB;go_wp2_with fail
     go_roundw
     case rel=>exact⟨q+1,by omega,by simp,dN,gV⟩
     case measure=>simp[intOf];omega
    clear WB;go_wp2_with fail
    exact bI rfl d gV V.size E9 _ _ rfl (λh=>absurd h (by decide))
   obtain rfl:q=f.ga.length:=by omega
   obtain⟨r,hr⟩:=wm.yb (gs:=f.ga) (λj hj=>l j hj);clear l;have Z:=J (Gk w7 f A1 A2 A3 A4 A5 O Q R c1 c2 c3 c4 c5 S T U Yj HK (X.below k).ga);clear k;go_wp2_with fail
   refine Z.mono ?_;rintro e gY ⟨db,zs,rfl,a0,a1,hD,ap⟩;have iG:Below c c gY:=oV.trans (ap.mono oV.size);have HD:=J hD;have uw:Hid (Below c c gY):=J iG;have aN:Hid (Below w w gY):=J (M.trans (iG.mono p));clear u v A B C D E F G H I ak K;obtain⟨u,v,A,B,C,D,E,F,G⟩:=nine n iG;have H:=d.at iG 0 rfl;have I:=d.at iG 1 rfl;have ak:=(d.l iG).frozen 0;have K:=(d.l iG).frozen 1;clear Z iG ap hD;go_wp2_with fail
   go_loopw [8] (λi wr=>∃q:Nat,q<=f.ga.length/\i=.int .i64 q/\gY=wr) (λi _=>f.ga.length - (intOf i).toNat)
   case atStart=>exact⟨0,by omega,rfl,rfl⟩
   case round=>
    obtain⟨q,hq,rfl,rfl⟩:=hrel;by_cases t:q<f.ga.length
    .obtain⟨z,hz⟩:∃z,zs[q]?=some z:=⟨_,jO (by omega)⟩
     have u0:=Ri HD hz;clear hz;by_cases hs:4<z
     .go_wp2_with fail
      exact bI rfl d uw V.size aN _ _ rfl (λh=>absurd h (by decide))
     go_wp2_with fail
     go_roundw
     case rel=>exact⟨q+1,by omega,by simp,by trivial⟩
     case measure=>simp[intOf];omega
    obtain rfl:q=f.ga.length:=by omega
    go_wp2_with fail
    go_loopw [9] (λi wr=>∃q:Nat,q<=f.ga.length/\i=.int .i64 q/\Hid (True)/\Below c c wr) (λi _=>f.ga.length - (intOf i).toNat)
    case atStart=>exact⟨0,by omega,rfl,J trivial,uw⟩
    case round=>
     obtain⟨lQ,rfl⟩:∃x,x=wr:=⟨_,rfl⟩
     obtain⟨q,hq,rfl,l,N⟩:=hrel;have Jq:Hid (Below c c lQ):=J N;have aR:Hid (Below w w lQ):=J (M.trans (N.mono p));clear u v A B C D E F G H I ak K;obtain⟨u,v,A,B,C,D,E,F,G⟩:=nine n N;have H:=d.at N 0 rfl;have I:=d.at N 1 rfl;have ak:=(d.l N).frozen 0;have K:=(d.l N).frozen 1;by_cases t:q<f.ga.length
     .have Z:=J (Lx f A1 A2 A3 A4 A5 O Q R c1 c2 c3 c4 c5 S T U r Yj (λg hg=>(ad g hg).h) HK hr (r q+1) lQ q (Nat.lt_succ_self _) t (X.below N).ga);clear N;go_wp2_with fail
      refine Z.mono ?_;rintro e zV ⟨s,rfl,aq⟩;have sQ:Below c c zV:=Jq.trans (aq.mono Jq.size);have CS:Hid (Below c c zV):=J sQ;have aW:Hid (Below w w zV):=J (M.trans (sQ.mono p));clear u v A B C D E F G H I ak K;obtain⟨u,v,A,B,C,D,E,F,G⟩:=nine n sQ;have H:=d.at sQ 0 rfl;have I:=d.at sQ 1 rfl;have ak:=(d.l sQ).frozen 0;have K:=(d.l sQ).frozen 1;clear Z sQ aq;by_cases hs:1000<s
      .go_wp2_with fail
       exact bI rfl d CS V.size aW _ _ rfl (λh=>absurd h (by decide))
      have bs:decide (1000<s)=false:=decide_eq_false hs;go_wp2_with fail
      go_roundw
      case rel=>exact⟨q+1,by omega,by simp,J trivial,CS⟩
      case measure=>simp[intOf];omega
     obtain rfl:q=f.ga.length:=by omega
     have hg:P:=HP.mpr ⟨Yj,HE,HA⟩;clear N;go_wp2_with fail
     exact bI rfl d Jq V.size aR 0 _ rfl (λ_=>hg)
structure pj (f:iu):Prop where
 gt:16<=f.gt/\f.gt<=4096
 ga:uc f
 f6:f.f6.length<=1000/\∀c∈f.f6,(0<=c.jN/\c.jN<=1114111)/\In f.ga.length c.z
 looks:(f.ge.length<=40/\∀l∈f.ge,ti f.ga.length f.ge.length l)/\f.a'.length<=20/\∀x∈f.a',th f.ge.length x
 gM:(f.gM.length<=3/\∀a∈f.gM,KA a)/\f.d'.length<=16/\∀r∈f.d',QY f.gM.length r
 tS:(f.fY.length<=20/\∀p∈f.fY,Xz p)/\f.gP.length<=64/\∀n∈f.gP,N9 n
structure mp (f:iu):Prop where
 ga:ip f.ga.length
 f6:ip f.f6.length
 ge:ip f.ge.length
 k:ip f.a'.length
 gM:ip f.gM.length
 e:ip f.d'.length
 fY:ip f.fY.length
 gP:ip f.gP.length
 z:∀g∈f.ga,tT g
 look:∀l∈f.ge,vy l
 tn:∀x∈f.a',vA x
 qS:∀a∈f.gM,ip a.gn.length
 tH:∀r∈f.d',ip r.kB.length
 func:∀p∈f.fY,ip p.length
theorem J9 (f:iu)(A1 A2 A3 A4 A5 ak K L:Option Addr)(c1 c2 c3 c4 c5 M N O:Nat)(hF:oS ⟨A1,c1,A2,c2,A3,c3,A4,c4,A5,c5,ak,M,K,N,L,O⟩ f w)(l:mp f):Calls Tryz.prog 14 #[.agg #[f.gt,A1 f.ga.length c1,A2 f.f6.length c2,A3 f.ge.length c3,A4 f.a'.length c4,A5 f.gM.length c5,ak f.d'.length M,K f.fY.length N,L f.gP.length O]] w (Ju w (pj f)):=by
 obtain⟨P,HP⟩:∃P:Prop,Hid (P=(pj f)):=⟨_,rfl⟩
 rw[<-HP.out];obtain⟨Wf,ar,X,bV⟩:=aO w 32 #[f.gt,A1 f.ga.length c1,A2 f.f6.length c2,A3 f.ge.length c3,A4 f.a'.length c4,A5 f.gM.length c5,ak f.d'.length M,K f.fY.length N,L f.gP.length O];have u:Hid (Below w w Wf):=J X;have oq:=J (hF.below X);obtain⟨d,qE,Q,q⟩:=aO Wf 83 #[.int .i64 0,.int .i64 0];have T:Hid (Below w w d):=J (u.trans (Q.mono u.size));have b:=J q;have o:Hid (Bk d w.heap.size 32 #[f.gt,A1 f.ga.length c1,A2 f.f6.length c2,A3 f.ge.length c3,A4 f.a'.length c4,A5 f.gM.length c5,ak f.d'.length M,K f.fY.length N,L f.gP.length O]):=J (Bk.l bV Q);have r:=J (oq.below Q);have s:=T.size;have qy:Hid (Below d d d):=J (gD _ _);have v:=o.cell 0;have x:=o.cell 1;have y:=o.cell 2;have z:=o.cell 3;have A:=o.cell 4;have B:=o.cell 5;have C:=o.cell 6;have D:=o.cell 7;have E:=o.cell 8;have F:=q.cell 0;have G:=q.cell 1;have H:=q.frozen 0;have I:=q.frozen 1;clear hF X bV Q q oq;go_enter Tryz.func14,Tryz.ntmps14
 by_cases h1:f.gt<16
 .go_wp2_with fail
  exact bI rfl b qy u.size T _ _ rfl (λh=>absurd h (by decide))
 by_cases h2:4096<f.gt
 .go_wp2_with fail
  exact bI rfl b qy u.size T _ _ rfl (λh=>absurd h (by decide))
 have p:=J (Zf d f A1 A2 A3 A4 A5 ak K L c1 c2 c3 c4 c5 M N O r l.ga l.e l.z);go_wp2_with fail
 try clear ar
 try clear qE
 refine p.mono ?_;rintro e n ⟨r3,a3,rfl,ZY,R⟩;clear p;have zg:=b.lt;have m:d.heap.size<=n.heap.size:=R.size
 obtain⟨W4,aw,ap,S⟩:=aO n 83 #[r3,a3];have i:Below d d W4:=R.trans (ap.mono R.size);have Y:Hid (Below d d W4):=J i;have E4:Hid (Below w w W4):=J (T.trans (i.mono s))
 try clear v x y z A B C D E
 clear F G H I;obtain⟨v,x,y,z,A,B,C,D,E⟩:=nine o i;have F:=b.at i 0 rfl;have G:=b.at i 1 rfl;have H:=(b.l i).frozen 0;have I:=(b.l i).frozen 1;have U:=S.cell 0;have V:=S.cell 1;clear ap R;by_cases g:r3=0
 .have K3:=J (ZY g);clear ZY;subst g;have p:=J (Fu W4 f A1 A2 A3 A4 A5 ak K L c1 c2 c3 c4 c5 M N O (r.below i) l.ga l.f6);clear i;go_wp2_with fail
  try clear aw
  refine p.mono ?_;rintro e w5 ⟨r5,a5,rfl,tN,Z⟩;clear p U V;have EO:=S.l Z;have f0:=EO.frozen 0;have f1:=EO.frozen 1;have c0:=EO.cell 0;have aa:=EO.cell 1;obtain⟨W6,ab⟩:∃W,(w5.setCell (n,0) (.int .i64 r5)).setCell (n,1) (.int .i64 a5)=W:=⟨_,rfl⟩
  have Ak:Bk W6 n.heap.size wR #[r5,a5]:=by rw[<-ab];have:=(EO.set 0 (.int .i64 r5)).set 1 (.int .i64 a5);simpa using this
  have j:Below d d W6:=by rw[<-ab];exact((Y.trans (Z.mono Y.size)).setCell m _).setCell m _
  have iM:Hid (Below d d W6):=J j;have E6:Hid (Below w w W6):=J (T.trans (j.mono s))
  try clear v x y z A B C D E
  clear F G H I;obtain⟨v,x,y,z,A,B,C,D,E⟩:=nine o j;have F:=b.at j 0 rfl;have G:=b.at j 1 rfl;have H:=(b.l j).frozen 0;have I:=(b.l j).frozen 1;have U:=Ak.cell 0;have V:=Ak.cell 1;clear S EO Z;by_cases g:r5=0
  .have K5:=J (tN g);clear tN;subst g;have p:=J (FA W6 f A1 A2 A3 A4 A5 ak K L c1 c2 c3 c4 c5 M N O (r.below j) l.ga l.ge l.k l.look l.tn);clear j;go_wp2_with fail
   try clear ab
   refine p.mono ?_;rintro e w7 ⟨r7,a7,rfl,KG,ac⟩;clear p U V;have xE:=Ak.l ac;have f0:=xE.frozen 0;have f1:=xE.frozen 1;have c0:=xE.cell 0;have aa:=xE.cell 1;obtain⟨W8,ad⟩:∃W,(w7.setCell (n,0) (.int .i64 r7)).setCell (n,1) (.int .i64 a7)=W:=⟨_,rfl⟩
   have I8:Bk W8 n.heap.size wR #[r7,a7]:=by rw[<-ad];have:=(xE.set 0 (.int .i64 r7)).set 1 (.int .i64 a7);simpa using this
   have k:Below d d W8:=by rw[<-ad];exact((iM.trans (ac.mono iM.size)).setCell m _).setCell m _
   have lL:Hid (Below d d W8):=J k;have E8:Hid (Below w w W8):=J (T.trans (k.mono s))
   try clear v x y z A B C D E
   clear F G H I;obtain⟨v,x,y,z,A,B,C,D,E⟩:=nine o k;have F:=b.at k 0 rfl;have G:=b.at k 1 rfl;have H:=(b.l k).frozen 0;have I:=(b.l k).frozen 1;have U:=I8.cell 0;have V:=I8.cell 1;clear Ak xE ac;by_cases g:r7=0
   .have K7:=J (KG g);clear KG;subst g;have p:=J (J0 W8 f A1 A2 A3 A4 A5 ak K L c1 c2 c3 c4 c5 M N O (r.below k) l.gM l.e l.qS l.tH);clear k;go_wp2_with fail
    try clear ad
    refine p.mono ?_;rintro e w9 ⟨r9,a9,rfl,I7,bf⟩;clear p U V;have VN:=I8.l bf;have f0:=VN.frozen 0;have f1:=VN.frozen 1;have c0:=VN.cell 0;have aa:=VN.cell 1;obtain⟨pg,al⟩:∃W,(w9.setCell (n,0) (.int .i64 r9)).setCell (n,1) (.int .i64 a9)=W:=⟨_,rfl⟩
    have XH:Bk pg n.heap.size wR #[r9,a9]:=by rw[<-al];have:=(VN.set 0 (.int .i64 r9)).set 1 (.int .i64 a9);simpa using this
    have a:Below d d pg:=by rw[<-al];exact((lL.trans (bf.mono lL.size)).setCell m _).setCell m _
    have Bl:Hid (Below d d pg):=J a;have ay:Hid (Below w w pg):=J (T.trans (a.mono s))
    try clear v x y z A B C D E
    clear F G H I;obtain⟨v,x,y,z,A,B,C,D,E⟩:=nine o a;have F:=b.at a 0 rfl;have G:=b.at a 1 rfl;have H:=(b.l a).frozen 0;have I:=(b.l a).frozen 1;have U:=XH.cell 0;have V:=XH.cell 1;clear I8 VN bf;by_cases g:r9=0
    .have K9:=J (I7 g);clear I7;subst g;have p:=J (FF pg f A1 A2 A3 A4 A5 ak K L c1 c2 c3 c4 c5 M N O (r.below a) l.fY l.gP l.func);clear a;go_wp2_with fail
     try clear al
     refine p.mono ?_;rintro e gY ⟨t,ao,rfl,Nc,iG⟩;clear p U V;have Bo:=XH.l iG;have f0:=Bo.frozen 0;have f1:=Bo.frozen 1;have c0:=Bo.cell 0;have aa:=Bo.cell 1;obtain⟨nP,Fg⟩:∃W,(gY.setCell (n,0) (.int .i64 t)).setCell (n,1) (.int .i64 ao)=W:=⟨_,rfl⟩
     have Js:Bk nP n.heap.size wR #[t,ao]:=by rw[<-Fg];have:=(Bo.set 0 (.int .i64 t)).set 1 (.int .i64 ao);simpa using this
     have c:Below d d nP:=by rw[<-Fg];exact((Bl.trans (iG.mono Bl.size)).setCell m _).setCell m _
     have vT:Hid (Below d d nP):=J c;have aq:Hid (Below w w nP):=J (T.trans (c.mono s))
     try clear v x y z A B C D E
     clear F G H I;obtain⟨v,x,y,z,A,B,C,D,E⟩:=nine o c;have F:=b.at c 0 rfl;have G:=b.at c 1 rfl;have H:=(b.l c).frozen 0;have I:=(b.l c).frozen 1;have U:=Js.cell 0;have V:=Js.cell 1;clear XH Bo iG;by_cases g:t=0
     .have aD:=J (Nc g);clear Nc;subst g;have hg:P:=HP.mpr ⟨⟨by omega,by omega⟩,K3,K5,K7,K9,aD⟩;clear c;go_wp2_with fail
      exact bI rfl b vT u.size aq _ _ rfl (λ_=>hg)
     clear Nc c;go_wp2_with fail
     exact bI rfl b vT u.size aq _ _ rfl (λh=>absurd h g)
    have Rh:(r9==0)=false:=fM g;clear I7 a;go_wp2_with fail
    exact bI rfl b Bl u.size ay _ _ rfl (λh=>absurd h g)
   have Rh:(r7==0)=false:=fM g;clear KG k;go_wp2_with fail
   exact bI rfl b lL u.size E8 _ _ rfl (λh=>absurd h g)
  have Rh:(r5==0)=false:=fM g;clear tN j;go_wp2_with fail
  exact bI rfl b iM u.size E6 _ _ rfl (λh=>absurd h g)
 have Rh:(r3==0)=false:=fM g;clear ZY i;go_wp2_with fail
 exact bI rfl b Y u.size E4 _ _ rfl (λh=>absurd h g)
theorem tW.right {n:Nat}{t:Int}(h:tQ n m t r)(j:1<=t/\t<=8)(e:t<=6)(k:m<=40):qw n t r where
 gE:=λs a=>h.N s (by simp[a])
 ij:=λs a=>h.N s (by simp[a])
 ahead:=λs a=>h.N s (by simp[a])
 out:=h.outs.out
 gw:=λc b=>by
  obtain⟨⟨l,o⟩,p,q⟩:=h.outs.gw c b;have:=h.shape.1.2.1;exact⟨by unfold N9;omega,by unfold N9;omega⟩
 x:=h.outs.x
 one:=λd=>by
  have f:=h.shape.2.2 d;obtain⟨s,a⟩:=List.length_eq_one_iff.1 f;exact⟨s,a,h.outs.w.1 d s (by rw[a];rfl)⟩
 outs:=λg=>h.outs.w.2.2.2 (by omega) (by omega) (by omega) (by omega)
 uW:=λi=>Decidable.byContradiction λb=>i (h.outs.uW b)
 u':=λe=>Decidable.byContradiction λb=>e (h.outs.u' b)
theorem pj.right (h:pj v):sd v where
 gt:=by have:=h.gt;unfold N9;omega
 gM:=h.gM.1.2
 e:=λr a t m=>by
  obtain⟨b,i,j,o⟩:=(h.gM.2.2 r a).2 t m;exact⟨by unfold N9;omega,by unfold N9;omega,by unfold N9;omega⟩
 gP:=h.tS.2.2
 fY:=λp q=>(h.tS.1.2 p q).2
 apart:=h.ga.apart.nodup
 ga:=λg s=>by
  have k:=h.ga.each g s;have a:=h.gM.2.1;refine⟨k.gn,k.oo,k.h.2,k.gO.2,k.gi.2,k.M.2,λd u=> ?_,k.gR.2⟩;obtain⟨⟨b,i⟩,⟨j,o⟩,f,w⟩:=k.o.2 d u;have:=k.h.1;exact⟨by unfold N9;omega,by unfold N9;omega,f,w⟩
 f6:=λc y=>by
  obtain⟨⟨b,i⟩,j⟩:=h.f6.2 c y;exact⟨by unfold N9;omega,j⟩
 ge:=λl z=>by
  have k:=h.looks.1.2 l z;refine⟨k.gd.1,k.gd.2,λr a=>tW.right (k.gC r a) k.gd (k.none (λe=>by rw[e]at a;simp at a)) h.looks.1.1⟩
 k:=λx A=>by
  have k:=h.looks.2.2 x A;refine⟨k.gn,λn B=> ?_⟩;obtain⟨b,i⟩:=k.ge n B;have:=h.looks.1.1;unfold N9;omega
 i:=by have:=h.ga.i;omega
theorem J' (f:iu)(M N O Q R g i j:Option Addr)(c1 c2 c3 c4 c5 k l m:Nat)(q:oS ⟨M,c1,N,c2,O,c3,Q,c4,R,c5,g,k,i,l,j,m⟩ f w)(y:mp f):Calls Tryz.prog 7 #[.agg #[f.gt,M f.ga.length c1,N f.f6.length c2,O f.ge.length c3,Q f.a'.length c4,R f.gM.length c5,g f.d'.length k,i f.fY.length l,j f.gP.length m]] w (mK w (pj f)):=by
 obtain⟨P,s⟩:∃P:Prop,Hid (P=(pj f)):=⟨_,rfl⟩
 rw[<-s.out];obtain⟨t,n,b,o⟩:=aO w 32 #[f.gt,M f.ga.length c1,N f.f6.length c2,O f.ge.length c3,Q f.a'.length c4,R f.gM.length c5,g f.d'.length k,i f.fY.length l,j f.gP.length m];have u:Hid (Below w w t):=J b;have c:=q.below b;have v:=J (J9 t f M N O Q R g i j c1 c2 c3 c4 c5 k l m c y);obtain⟨D,E,F,G,H,I,C,K,L⟩:=nine o (gD _ _);clear q c b o;go_enter Tryz.func7,Tryz.ntmps7
 go_wp2_with fail
 try clear n
 refine v.mono ?_;rintro e p ⟨r,a,rfl,x,d⟩;have z:Hid ((r==0)=true->pj f):=J λh=>x (by simpa using h)
 have A:Hid (Below w w p):=J (u.trans (d.mono u.size));clear v x d;have B:(Instr.field 83 (.agg #[r,a]) 0).run Tryz.prog p=.ok (.int .i64 r) p:=by
  first
   |(simp[Instr.field,partOf,sizeOf,Tryz.underlying83];done)
   |rfl
   |(unfold Instr.field;simp;rfl)
 go_wp2_with fail
 try go_ret
 exact⟨_,rfl,λh=>s.mpr (z h),A⟩
def Tx (w:World)(e:Ending)(w':World):Prop:=∃b:Bool,e=.returned (.bool b)/\Below w w w'
theorem WL (n:Nat):∃q:Nat,(n:Int).tdiv 100=(q:Int)/\q<=n:=⟨n / 100,by rw[Int.tdiv_eq_ediv_of_nonneg (by omega)];omega,Nat.div_le_self _ _⟩
theorem Qf (f:iu)(A1 A2 A3 A4 A5 O P Q:Option Addr)(c1 c2 c3 c4 c5 R S T:Nat)(hF:oS ⟨A1,c1,A2,c2,A3,c3,A4,c4,A5,c5,O,R,P,S,Q,T⟩ f w)(t:mp f):Calls Tryz.prog 6 #[.agg #[f.gt,A1 f.ga.length c1,A2 f.f6.length c2,A3 f.ge.length c3,A4 f.a'.length c4,A5 f.gM.length c5,O f.d'.length R,P f.fY.length S,Q f.gP.length T]] w (Tx w):=by
 obtain⟨a,U,v,V⟩:=aO w 32 #[f.gt,A1 f.ga.length c1,A2 f.f6.length c2,A3 f.ge.length c3,A4 f.a'.length c4,A5 f.gM.length c5,O f.d'.length R,P f.fY.length S,Q f.gP.length T];have bH:Hid (Below w w a):=J v;have E:=J V;have F:=J (hF.below v);obtain⟨k0,k1,k2,k3,k4,k5,k6,k7,k8⟩:=nine V (gD _ _);have zf:=v.size;have b1:=t.ga;have b2:=t.f6;have b3:=t.ge;have b4:=t.k;have b5:=t.gM;have b6:=t.e;have b7:=t.fY;have b8:=t.gP;unfold ip at b1 b2 b3 b4 b5 b6 b7 b8;have G:=J t;clear hF t v V;go_enter Tryz.func6,Tryz.ntmps6
 go_upto_block 0 with fail
 try clear U
 clear k0 k1 k2 k3 k4 k5 k6 k7 k8;go_cut [3,4,5]from 41 to 83 (λn _ _ y=>∃z:Int,n=.int .i64 z/\0<=z/\z<=100000000000000/\Below a a y)
 case first=>
  go_wp2_with fail
  go_loopw [3,4] (λn i wr=>∃(k:Nat) (z:Int),k<=f.ga.length/\n=.int .i64 z/\i=.int .i64 k/\0<=z/\z<=100000000000000/\Below a a wr) (λ_ i _=>f.ga.length - (intOf i).toNat)
  case atStart=>exact⟨0,_,by omega,rfl,rfl,by omega,by omega,gD _ _⟩
  case round=>
   obtain⟨s,rfl⟩:∃x,x=wr:=⟨_,rfl⟩
   obtain⟨k,z,L,rfl,rfl,c,d,g⟩:=hrel;have h:Hid (Below a a s):=J g;have k1:=E.at g 1 rfl;by_cases j:k<f.ga.length
   .by_cases m:z<=2000
    .obtain⟨b,o,x,B3,d3,B4,d4,B5,d5,B6,d6,B7,d7,B8,d8,rfl,l,p,H,W,q2,q3,q4,q5,q6,q7,q8,-⟩:=(F.ga.lw iA.ok g).z j;have C:=G.z x (kj p);obtain⟨g0,g3,g4,g5,g6,g7,g8⟩:=C;unfold ip at g0 g3 g4 g5 g6 g7 g8;obtain⟨X,Y,Z⟩:=WL x.gn.length;obtain⟨Wg,qE,I,A⟩:=aO s 52 #[.string ⟨x.gn.toArray⟩,.int .i64 x.gL,.bool x.i6,B3 x.gk.length d3,B4 x.gO.length d4,B5 x.gi.length d5,B6 x.gh.length d6,B7 x.gx.length d7,B8 x.gR.length d8];obtain⟨m0,m1,m2,m3,m4,m5,m6,m7,m8⟩:=nine A (gD _ _);have dG:Hid (Below a a Wg):=J (g.trans (I.mono g.size));clear g l p I A;go_wp2_with fail
     try clear qE
     go_roundw
     case rel=>exact⟨k+1,_,by omega,rfl,by simp,by omega,by omega,dG⟩
     case measure=>simp[intOf];omega
    clear g;go_wp2_with fail
    go_meet
    exact⟨z,rfl,c,d,h⟩
   clear g;go_wp2_with fail
   go_meet
   exact⟨z,rfl,c,d,h⟩
 case rest=>
 obtain⟨z,rfl,c,d,q⟩:=hcut
 try clear r
 have r:Hid (Below a a wc):=J q;clear q
 go_upto_block 2 with fail
 go_cut [3,6]from 84 to 103 (λn _ y=>∃z:Int,n=.int .i64 z/\0<=z/\z<=100000000000000/\Below a a y)
 case first=>
  go_wp2_with fail
  go_loopw [3,6] (λn i wr=>∃(k:Nat) (z:Int),k<=f.ge.length/\n=.int .i64 z/\i=.int .i64 k/\0<=z/\z<=100000000000000/\Below a a wr) (λ_ i _=>f.ge.length - (intOf i).toNat)
  case atStart=>exact⟨0,_,by omega,rfl,rfl,by omega,by omega,r⟩
  case round=>
   obtain⟨s,rfl⟩:∃x,x=wr:=⟨_,rfl⟩
   obtain⟨k,z,L,rfl,rfl,c,d,g⟩:=hrel;have h:Hid (Below a a s):=J g;have k3:=E.at g 3 rfl;by_cases j:k<f.ge.length
   .by_cases m:z<=2000
    .obtain⟨b,o,x,M,N,rfl,l,p,H,W,q2,r1,D⟩:=(F.ge.lw jn.ok g).lookup j;have C:=G.look x (kj p);have HO:=J (Zl s M N x.gC D C.gC C.X);clear g l p r1 D C;go_wp2_with fail
     refine HO.mono ?_;rintro e w4 ⟨u,rfl,ad,ak,K⟩;have aa:Hid (Below a a w4):=J (h.trans (K.mono h.size));clear HO K H W q2;go_wp2_with fail
     go_roundw
     case rel=>exact⟨k+1,_,by omega,rfl,by simp,by omega,by omega,aa⟩
     case measure=>simp[intOf];omega
    clear g;go_wp2_with fail
    go_meet
    exact⟨z,rfl,c,d,h⟩
   clear g;go_wp2_with fail
   go_meet
   exact⟨z,rfl,c,d,h⟩
 case rest=>
 obtain⟨z,rfl,c,d,q⟩:=hcut
 try clear r
 have r:Hid (Below a a wc):=J q;clear q
 go_upto_block 4 with fail
 go_cut [3,7]from 104 to 122 (λn _ y=>∃z:Int,n=.int .i64 z/\0<=z/\z<=100000000000000/\Below a a y)
 case first=>
  go_wp2_with fail
  go_loopw [3,7] (λn i wr=>∃(k:Nat) (z:Int),k<=f.fY.length/\n=.int .i64 z/\i=.int .i64 k/\0<=z/\z<=100000000000000/\Below a a wr) (λ_ i _=>f.fY.length - (intOf i).toNat)
  case atStart=>exact⟨0,_,by omega,rfl,rfl,by omega,by omega,r⟩
  case round=>
   obtain⟨s,rfl⟩:∃x,x=wr:=⟨_,rfl⟩
   obtain⟨k,z,L,rfl,rfl,c,d,g⟩:=hrel;have h:Hid (Below a a s):=J g;have k7:=E.at g 7 rfl;by_cases j:k<f.fY.length
   .by_cases m:z<=2000
    .obtain⟨b,o,x,M,N,rfl,l,p,H,D⟩:=(F.fY.lw kx.ok g).code j;have C:=G.func x (kj p);unfold ip at C;clear g l p D;go_wp2_with fail
     go_roundw
     case rel=>exact⟨k+1,_,by omega,rfl,by simp,by omega,by omega,h⟩
     case measure=>simp[intOf];omega
    clear g;go_wp2_with fail
    go_meet
    exact⟨z,rfl,c,d,h⟩
   clear g;go_wp2_with fail
   go_meet
   exact⟨z,rfl,c,d,h⟩
 case rest=>
 obtain⟨z,rfl,c,d,q⟩:=hcut
 try clear r
 have r:Hid (Below a a wc):=J q;clear q
 go_upto_block 6 with fail
 go_cut [3,8]from 123 to 151 (λn _ y=>∃z:Int,n=.int .i64 z/\0<=z/\z<=100000000000000/\Below a a y)
 case first=>
  go_wp2_with fail
  go_loopw [3,8] (λn i wr=>∃(k:Nat) (z:Int),k<=f.a'.length/\n=.int .i64 z/\i=.int .i64 k/\0<=z/\z<=100000000000000/\Below a a wr) (λ_ i _=>f.a'.length - (intOf i).toNat)
  case atStart=>exact⟨0,_,by omega,rfl,rfl,by omega,by omega,r⟩
  case round=>
   obtain⟨s,rfl⟩:∃x,x=wr:=⟨_,rfl⟩
   obtain⟨k,z,L,rfl,rfl,c,d,g⟩:=hrel;have h:Hid (Below a a s):=J g;have k4:=E.at g 4 rfl;by_cases j:k<f.a'.length
   .by_cases m:z<=2000
    .obtain⟨b,o,x,M,N,rfl,l,p,H,W,D⟩:=(F.k.lw kn.ok g).t' j;obtain⟨ab,ac⟩:=G.tn x (kj p);unfold ip at ab ac;obtain⟨X,Y,Z⟩:=WL x.gn.length;clear g l p D;have w1:IntKind.i64.wrap (z+x.ge.length)=z+x.ge.length:=IntWalk.i64_in _ (by omega);have w2:IntKind.i64.wrap (z+x.ge.length+X)=z+x.ge.length+X:=IntWalk.i64_in _ (by omega);go_wp2_with fail
     go_region
     go_wp2_with fail
     go_roundw
     case rel=>exact⟨k+1,_,by omega,rfl,by simp,by omega,by omega,(by first|exact h.drew|exact below_drewN h _)⟩
     case measure=>simp[intOf];omega
    clear g;go_wp2_with fail
    go_meet
    exact⟨z,rfl,c,d,h⟩
   clear g;go_wp2_with fail
   go_meet
   exact⟨z,rfl,c,d,h⟩
 case rest=>
 obtain⟨z,rfl,c,d,q⟩:=hcut
 try clear r
 have r:Hid (Below a a wc):=J q;clear q
 go_upto_block 8 with fail
 go_cut [3,9]from 152 to 171 (λn _ y=>∃z:Int,n=.int .i64 z/\0<=z/\z<=100000000000000/\Below a a y)
 case first=>
  go_wp2_with fail
  go_loopw [3,9] (λn i wr=>∃(k:Nat) (z:Int),k<=f.d'.length/\n=.int .i64 z/\i=.int .i64 k/\0<=z/\z<=100000000000000/\Below a a wr) (λ_ i _=>f.d'.length - (intOf i).toNat)
  case atStart=>exact⟨0,_,by omega,rfl,rfl,by omega,by omega,r⟩
  case round=>
   obtain⟨s,rfl⟩:∃x,x=wr:=⟨_,rfl⟩
   obtain⟨k,z,L,rfl,rfl,c,d,g⟩:=hrel;have h:Hid (Below a a s):=J g;have k6:=E.at g 6 rfl;by_cases j:k<f.d'.length
   .by_cases m:z<=2000
    .obtain⟨b,o,x,M,N,rfl,l,p,H,D⟩:=(F.e.lw ko.ok g).region j;have C:=G.tH x (kj p);unfold ip at C;clear g l p D;go_wp2_with fail
     go_roundw
     case rel=>exact⟨k+1,_,by omega,rfl,by simp,by omega,by omega,h⟩
     case measure=>simp[intOf];omega
    clear g;go_wp2_with fail
    go_meet
    exact⟨z,rfl,c,d,h⟩
   clear g;go_wp2_with fail
   go_meet
   exact⟨z,rfl,c,d,h⟩
 case rest=>
 obtain⟨z,rfl,c,d,q⟩:=hcut
 try clear r
 have r:Hid (Below a a wc):=J q;clear q;have HE:Hid (Below w w wc):=J (bH.trans (r.mono zf));go_wp2_with fail
 go_ret
 exact⟨_,rfl,HE⟩
theorem Se (n:Nat)(s:List Int):∀k:Int,k<=n->s.Pairwise (· < ·)->(∀x∈s,k<=x/\x<n)->k+s.length<=n:=by
 induction s with
 |nil=>intro k d _ _;simpa using d
 |cons a r e=>intro k _ b h;rw[List.pairwise_cons]at b;have f:=h a (by simp);have:=e (a+1) (by omega) b.2 (λx c=>⟨by have:=b.1 x c;omega,(h x (by simp[c])).2⟩);rw[aV];omega
theorem pf.len {n:Nat}{s:List Int}(h:pf n s):s.length<=n:=by have:=Se n s 0 (by omega) h.1 (λx a=>h.2 x a);omega
structure vj (r:k'):Prop where
 rows:r.gE.length<=6/\r.ij.length<=6/\r.ahead.length<=6
 N:(∀s∈r.gE,s.length<=400)/\(∀s∈r.ij,s.length<=400)/\∀s∈r.ahead,s.length<=400
 outs:r.out.length<=400/\r.gw.length<=6
structure yk (g:hU):Prop where
 h:g.gk.length<=200
 gO:g.gO.length<=40
 gi:g.gi.length<=8
 M:g.gh.length<=16
 o:g.gx.length<=400
 gR:g.gR.length<=200
structure vh (f:iu):Prop where
 ga:f.ga.length<=400/\∀g∈f.ga,yk g
 f6:f.f6.length<=1000
 ge:f.ge.length<=40/\∀l∈f.ge,l.gC.length<=60/\∀r∈l.gC,vj r
 k:f.a'.length<=20/\∀x∈f.a',x.ge.length<=40
 gM:f.gM.length<=3
 e:f.d'.length<=16/\∀r∈f.d',r.kB.length<=3
 fY:f.fY.length<=20/\∀p∈f.fY,p.length<=200
 gP:f.gP.length<=64
theorem tQ.cp {n:Nat}{k:Int}(h:tQ n m k r)(b:n<=400):vj r where
 rows:=h.shape.1
 N:=⟨λs a=>nt (h.N s (by simp[a])).len b,λs a=>nt (h.N s (by simp[a])).len b,λs a=>nt (h.N s (by simp[a])).len b⟩
 outs:=by
  refine⟨?_,nt h.outs.i (by decide)⟩;obtain⟨e,f,g,i⟩:=h.outs.w;by_cases j:k=1\/k=5
  .cases hi:r.ij with
   |nil=>exact absurd hi h.shape.2.1
   |cons s t=>have:=e j s (by rw[hi];rfl);have:=(h.N s (by rw[hi];simp)).len;omega
  by_cases c:k=2
  .have:=f c;omega
  by_cases d:k=3
  .have:=g d;omega
  rw[i (by omega) c d (by omega)];simp
theorem pj.cp (h:pj v):vh v where
 ga:=⟨h.ga.i,λg c=>by
  have k:=h.ga.each g c;exact⟨k.h.1,k.gO.1,k.gi.1,k.M.1,k.o.1,k.gR.1⟩⟩
 f6:=h.f6.1
 ge:=⟨h.looks.1.1,λl b=>⟨(h.looks.1.2 l b).i,λr a=>((h.looks.1.2 l b).gC r a).cp h.ga.i⟩⟩
 k:=⟨h.looks.2.1,λx d=>nt (h.looks.2.2 x d).i h.looks.1.1⟩
 gM:=h.gM.1.1
 e:=⟨h.gM.2.1,λr a=>by have:=(h.gM.2.2 r a).1;have:=h.gM.1.1;omega⟩
 fY:=⟨h.tS.1.1,λp e=>(h.tS.1.2 p e).1⟩
 gP:=h.tS.2.1
theorem vh.cap (h:vh v):xp v where
 ga:=⟨by have:=h.ga.1;omega,λg m=>by
  have k:=h.ga.2 g m;exact⟨by have:=k.h;omega,by have:=k.gO;omega,by have:=k.gi;omega,by have:=k.M;omega,by have:=k.o;omega,by have:=k.gR;omega⟩⟩
 f6:=h.f6
 ge:=⟨by have:=h.ge.1;omega,λl j=>⟨by have:=(h.ge.2 l j).1;omega,λr n=>by
  have k:=(h.ge.2 l j).2 r n;obtain⟨a,b,c⟩:=k.rows;obtain⟨d,e⟩:=k.outs;exact⟨⟨by omega,by omega,by omega⟩,by omega,by omega⟩⟩⟩
 k:=⟨by have:=h.k.1;omega,λx i=>by have:=h.k.2 x i;omega⟩
 gM:=by have:=h.gM;omega
 e:=⟨by have:=h.e.1;omega,λx i=>by have:=h.e.2 x i;omega⟩
 fY:=⟨by have:=h.fY.1;omega,λx i=>by have:=h.fY.2 x i;omega⟩
 gP:=by have:=h.gP;omega
theorem WO {p:List Ins}(h:nI p)(c:p.length<=200){a:B}(b:a.length<=32):Lk [a::p.map dO] 6634:=Lk.line (n:=201) (.cons b (Q6 h)) (by rw[aV,lE];omega)
theorem Kg (j:∀g∈f,hZ g.gn=true)(s:Bool){g:hU}(h:rl f.length g)(b:yk g):Lk (zx f s g) 342247:=by
 unfold zx;have e:342247=133+(40*6634+(8*133+(16*166+(400*166+6634)))):=rfl;rw[e];obtain⟨k,c2⟩:=Dv g.gk g.gO 0;refine .cons (Lk.line (n:=4) (.cons (by decide) (.cons (nt (oM h.gn) (by decide)) (.cons (n32 h.oo) ?_))) ?_) (.app (.map (λc l=> ?_) (nt k b.gO)) (.app (.map (λp i=> ?_) b.gi) (.app (.map (λa m=> ?_) b.M) (.app (.map (λd o=> ?_) b.o) ?_))))
 .split
  .exact .cons (by decide) .nil
  exact .nil
 .unfold Sm;simp only[aV];split<;>simp
 .obtain⟨r,q⟩:=c2 c l;exact Lk.line (n:=201) (.cons (by decide) (.map λp i=>Sy (h.h p (q p i)))) (by unfold V8;rw[aV,lE];have:=b.h;omega)
 .have:=h.gi p i;exact Lk.line (n:=4) (.cons (by decide) (.cons (Fe j this.1) (.cons (n32 this.2.1) (.cons (n32 this.2.2) .nil)))) (by simp[Jk])
 .have:=h.M a m;exact Lk.line (n:=5) (.cons (by decide) (.cons (nt (JP _ 9 Dg (by decide) _) (by decide)) (.cons (n32 this.2.2.1) (.cons (n32 this.2.2.2.1) (.cons (n32 this.2.2.2.2) .nil))))) (by simp[Jb])
 .have:=h.o d o;exact Lk.line (n:=5) (.cons (by decide) (.cons (n32 this.1) (.cons (n32 this.2.1) (.cons (n32 this.2.2.1) (.cons (n32 this.2.2.2) .nil))))) (by simp[Jc])
 split
 .exact WO h.gR b.gR (by decide)
 exact .nil _
theorem Ot (c:∀g∈f,hZ g.gn=true)(l:List (List Int))(h:∀s∈l,∀n∈s,In f.length n)(d:∀s∈l,s.length<=400)(e:l.length<=6):mR (di f l)/\(di f l).length<=2412:=by
 unfold di;refine⟨.flat λs a=> ?_,qX l _ 402 6 (λs a=> ?_) e⟩
 .unfold lz;split
  .exact .cons (Fe c (h _ a _ (by simp))) .nil
  exact(mR.cons (by decide) (.map λn b=>Fe c (h s a n b))).app (.cons (by decide) .nil)
 have:=d s a;unfold lz;split
 .simp
 simp only[nw,aV,la,lE,ln];omega
theorem Pa {p:List hU}(b:∀g∈p,hZ g.gn=true){o:Int}(h:qw p.length o r)(a:vj r):
  Lk [ku::(di p r.gE++[47]::di p r.ij++[47]::di p r.ahead++[62]::j' p o r)] 252121:=by
 obtain⟨e,l⟩:=Ot b r.gE (λs a=>(h.gE s a).2) a.N.1 a.rows.1;obtain⟨f,m⟩:=Ot b r.ij (λs a=>(h.ij s a).2) a.N.2.1 a.rows.2.1;obtain⟨i,c2⟩:=Ot b r.ahead (λs a=>(h.ahead s a).2) a.N.2.2 a.rows.2.2;have j:mR (j' p o r)/\(j' p o r).length<=400:=by
  unfold j';split
  .exact⟨.map λn d=>Fe b (h.out n d),by rw[lE];exact a.outs.1⟩
  split
  .exact⟨.map λc k=>Hj (h.gw c k),by rw[lE];have:=a.outs.2;omega⟩
  split
  .exact⟨.cons (n32 h.x) .nil,by simp⟩
  exact⟨.nil,by simp⟩
 refine Lk.line (n:=7640) (.cons (by decide) ((((e.app (.cons (by decide) f)).app (.cons (by decide) i))).app (.cons (by decide) j.1))) ?_;simp only[aV,la];omega
theorem CD (c:∀g∈f,hZ g.gn=true){l:gH}(h:∀r∈l.gC,qw f.length l.gd r)(a:l.gC.length<=60/\∀r∈l.gC,vj r):Lk (Ji f (di f) l) 15127360:=by
 unfold Ji;have e:15127360=100+60*252121:=rfl;rw[e];refine .cons (Lk.line (n:=3) (.cons (by decide) (.cons (nt (JP _ 9 Ke (by decide) _) (by decide)) ?_)) ?_) (.map (λr b=>Pa c (h r b) (a.2 r b)) a.1)
 .split
  .exact .cons (by decide) .nil
  exact .nil
 unfold Tt;simp only[aV];split<;>simp
theorem VQ (h:sd v)(b:vh v):(mD v).length<=750000000:=by
 have m:=VE h;have o:Lk (v.gM.map Eo) (3*166):= .map (λa o=>by
  have:=h.gM a o;exact Lk.line (n:=5) (.cons (by decide) (.cons (nt (oM this.1) (by decide)) (.cons (n32 this.2.1) (.cons (n32 this.2.2.1) (.cons (n32 this.2.2.2) .nil))))) (by simp[Eo])) b.gM
 have e:Lk (v.d'.map Gj) (16*331):= .map (λr e=>by
  have:=h.e r e;refine Lk.line (n:=10) (.cons (by decide) (.flat λt q=> .cons (n32 (this t q).1) (.cons (n32 (this t q).2.1) (.cons (n32 (this t q).2.2) .nil)))) ?_;have:=qX r.kB lK 3 3 (λt _=>by simp[lK]) (b.e.2 r e);unfold Gj;rw[aV];omega) b.e.1
 have w:Lk (v.fY.map RP) (20*6634):= .map (λp f=>WO (h.fY p f) (b.fY.2 p f) (by decide)) b.fY.1;have i:Lk (v.ga.flatMap (zx v.ga false)) (400*342247):= .flat (λg i=>Kg m false (h.ga g i) (b.ga.2 g i)) b.ga.1;have s:Lk (v.f6.map (Et v.ga)) (1000*100):= .map (λc j=>Lk.line (n:=3) (.cons (by decide) (.cons (n32 (h.f6 c j).1) (.cons (Fe m (h.f6 c j).2) .nil))) (by simp[Et])) b.f6;have d:Lk (v.a'.map Jd) (20*1387):= .map (λx d=>Lk.line (n:=42) (.cons (by decide) (.cons (nt (oM (h.k x d).1) (by decide)) (.it (h.k x d).2))) (by
  have:=b.k.2 x d;simp only[Jd,aV,lE];omega)) b.k.1
 have k:Lk (v.ge.flatMap (Ji v.ga (di v.ga))) (40*15127360):= .flat (λl k=>CD m (h.ge l k).2.2 (b.ge.2 l k)) b.ge.1;have j:Lk (if v.gP.isEmpty then []else [oO::v.gP.map ag]) 2146:=by
  split
  .exact .nil _
  exact Lk.line (n:=65) (.cons (by decide) (.it h.gP)) (by have:=b.gP;simp only[aV,lE];omega)
 have u:Lk (AL v) 750000000:=by unfold AL;exact .mono ((Pb h).app (o.app (e.app (j.app (w.app (i.app (s.app (k.app d)))))))) (by decide)
 rw[<-LW];exact u
theorem pj.len (h:pj v):(mD v).length<=750000000:=VQ h.right h.cp
theorem pj.print (h:pj v):(nZ v).length<=100000000000000:=Cs h.right h.cp.cap
