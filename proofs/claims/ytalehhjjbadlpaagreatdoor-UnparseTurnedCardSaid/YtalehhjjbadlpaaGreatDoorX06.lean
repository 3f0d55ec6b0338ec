/- Lemmas. -/
import Derived.Test.YtalehhjjbadlpaaGreatDoorX05
set_option linter.all false
set_option maxRecDepth 100000
set_option maxHeartbeats 32000000
namespace Go.Proofs.YtalehhjjbadlpaaGreatDoor
open Go.RowKit
variable{b:List (B×List Int)}{e q i:Nat}{w f:World}(v:World){a d:Int}{l:List Int}{g:List Value}{r:Gl}{t:B}{u:List B}{W:Value}
theorem lA.tG {p:Nat}{n:Nat}(h:lA e q w i p a n g W f):i8 f i p a:=by obtain⟨A,c,-,-,h,-⟩:=h;exact h
theorem lA.grown {p:Nat}{n:Nat}(h:lA e q w i p a n g W f):w.grownBy f (some i):=by obtain⟨A,c,-,-,-,h⟩:=h;exact h
theorem lA.after {b:World}{p:Nat}{n:Nat}(h:lA e q w i p d n g W f)(k:i8 b i p a)(v:f.grownBy b (some i))(r:UL≠e):lA e q w i p a n g W b:=by obtain⟨A,c,rfl,j,l,m⟩:=h;exact⟨A,c,rfl,j.kept v (dC j l r),k,dI m v⟩
def rk (t:B):Bool:=match t with|64::_=>true|_=>false
def tC (t:B):B:=match t with|64::r=>r|s=>s
theorem Rf (t:B):(∃r,t=64::r/\tC t=r/\rk t=true)\/(tC t=t/\rk t=false/\∀r,t≠64::r):=by
 unfold tC rk;split
 .exact .inl ⟨_,rfl,rfl,rfl⟩
 rename_i h;exact .inr ⟨rfl,rfl,h⟩
theorem sP (t:B):Lib.trimPrefix t [64]=tC t/\Lib.hasPrefix t [64]=rk t:=by
 cases t with
 |nil=>exact⟨rfl,rfl⟩
 |cons c r=>
  by_cases a:c=64
  .subst a;simp[Lib.trimPrefix,Lib.hasPrefix,tC,rk]
  rcases Rf (c::r)with⟨g,h,_⟩|⟨d,f,_⟩
  .injection h with h _
   exact absurd h a
  rw[d,f];have b:Lib.hasPrefix (c::r) [64]=false:=by simp only[Lib.hasPrefix,List.isPrefixOf,Bool.and_eq_false_iff,beq_eq_false_iff_ne,ne_eq];exact .inl (λe=>a e.symm)
  exact⟨by rw[Lib.trimPrefix,b];rfl,b⟩
theorem DA (t:B):Calls Tryz.prog 138 #[.string t,.string ⟨#[64]⟩] v λe a=>e=.returned (.tuple #[.string (tC t),.bool (rk t)])/\v=a:=by obtain⟨b,c⟩:=sP t;refine(Tryz.strings_CutPrefix ⟨t.toArray⟩ ⟨#[64]⟩ v).mono ?_;rintro e a ⟨d,f⟩;refine⟨?_,f.symm⟩;rw[d,<-b,<-c]
def iZ (e:Gl)(b:List (B×List Int))(d:Int)(a:List Int)(t:B):Int×List Int:=if rk t then(match b.lookup (tC t)with|some c=>(d,a++c)|none=>(eC d 23,a))else(kV e d t,a++[gX e t])
def bC (c:Gl)(b:List (B×List Int)):Int->List Int->List B->Int×List Int
 |er,a,[]=>(er,a)
 |er,a,t::r=>if(iZ c b er a t).1≠0 then iZ c b er a t else if 1000<(iZ c b er a t).2.length then(eC (iZ c b er a t).1 2,(iZ c b er a t).2)else bC c b (iZ c b er a t).1 (iZ c b er a t).2 r
theorem Oo {c:List (B×List Int)}{g:List Int}(h:iZ r c a l t=(d,g))(f:d≠0):bC r c a l (t::u)=(d,g):=by rw[bC,h,if_pos f]
theorem JW {c:List Int}(h:iZ r b d c t=(0,l))(e:1000<l.length):bC r b d c (t::u)=(2,l):=by rw[bC,h,if_neg (by simp),if_pos e];rfl
theorem Uy {c:List Int}(h:iZ r b d c t=(0,l))(e:l.length<=1000):bC r b d c (t::u)=bC r b 0 l u:=by rw[bC,h,if_neg (by simp),if_neg (by simp only;omega)]
def Dt (w:World):Bs:=λb=>∃a t,Bk w b t a/\nM t=true
structure ph (w:World)(p gm cm:Nat)(gl:Gl)(ia:List (B×List Int)):Prop where
 par:∃cs,Bk w p kJ cs/\cs[10]?=some (.map (some gm))/\cs[11]?=some (.map (some cm))
 r:j9 oJ w gm (λt=>(gl.lookup t).map λn=> .int .i64 (n:Nat))
 cl:pC w (Dt w) cm ia
theorem ie.at {p:Nat}{s:PS}{v:Rows}{K:Nat}(h:ie w e p i q r s v K):ph w p i q r s.ia:=by refine⟨⟨_,h.par,rfl,rfl⟩,h.r,?_⟩;obtain⟨f,d,u⟩:=h.ia;refine⟨f,d,λt=>(u t).imp id λ⟨l,A,c,g,a,j,k⟩=>⟨l,A,c,g,a,j.mono gS.ok λb ⟨m,t,n,o,_⟩=>⟨m,t,n,o⟩,k⟩⟩
theorem ph.gm {p:Nat}(h:ph w p e i r b):qT w p e r:=by obtain⟨g,c,d,f⟩:=h.par;exact⟨(c.cell 10).trans d,h.r⟩
theorem ph.keep {w':World}{p:Nat}(h:ph w p i e r b)(g:∀(D:Nat) t C,Bk w D t C->nM t=true\/t=kJ->w'.heap[D]?=w.heap[D]?)(j:∀(D:Nat) o c,w.heap[D]?=some (Obj.map o c)->w'.heap[D]?=w.heap[D]?):ph w' p i e r b:=by
 obtain⟨C,k,q,E⟩:=h.par;obtain⟨f,a,d⟩:=h.cl;obtain⟨m,z,s⟩:=h.r.isMap;obtain⟨n,c2,u⟩:=a.isMap;refine⟨⟨C,k.keep (g _ _ _ k (.inr rfl)),q,E⟩,h.r.keep (j _ _ _ s),⟨f,a.keep (j _ _ _ u),λt=>(d t).imp id λ⟨l,A,c,m,n,v,x⟩=>⟨l,A,c,m,n,?_,x⟩⟩⟩;have y:Same (Dt w) w w':=λD ⟨C,t,a,d⟩=>g D t C a (.inl d)
 exact(v.keep gS.ok y).mono gS.ok λD ⟨C,t,a,d⟩=>⟨C,t,a.keep (g D t C a (.inl d)),d⟩
theorem ph.grown {w':World}{p n:Nat}(h:ph w p i n r b)(f:i8 w e p a)(k:w.grownBy w' (some e)):ph w' p i n r b:=by
 refine h.keep (λo t l d ht=>k.block o d.lt λg=> ?_) (λo m c d=>k.block o (mq.1 d).1 λg=> ?_)
 .injection g with g
  subst g;have:=(dw d f).1;subst this;rcases ht with ht|ht
  .revert ht;decide
  revert ht;decide
 injection g with g
 subst g;unfold i8 Bk at f;rw[d]at f;cases f
theorem Zv {S:Bs}{A:Option Addr}(h:Sl gS 1 w S A l){Bd:Nat}(f:∀b,S b->b<Bd):Rd w Bd A l.length 1 (aC l):=by refine⟨by simp[aC],λg=> ?_⟩;obtain⟨a,i,k⟩:=h;obtain⟨b,o,e,m,n⟩:=k g;refine⟨b,o,e,f b m,λj u d=> ?_⟩;refine n j u ?_;simp only[aC,po,Option.map_eq_some_iff]at d;obtain⟨x,p,rfl⟩:=d;obtain⟨r,q,s,c⟩:=i.2 j x p;obtain⟨rfl,-⟩:=q;have:=c 0 _ rfl;show a[j]?=some (.int .i64 x);simpa using this
theorem G9 (a b:List Int):aC (a++b)=aC a++aC b:=by simp[aC]
theorem wW (l:List Int):∀u∈aC l,u.oneCell'=true:=Br l
def vV (w:World)(b p:Nat)(a:Int×List Int)(e:Ending)(w':World):Prop:=QZ 3 1 w b p a.1 a.2.length (aC a.2) e w'
theorem X7 {c:List P3}{k:Nat}(h:c[k]?=some (a,d,t)):(af c).drop k=t::(af c).drop (k+1):=by
 obtain⟨y,b⟩:=ll.1 h;rw[List.drop_eq_getElem_cons (by rw[ji];exact y)];congr 1
 simp[af,b]
theorem Xy:(zeroValue 22).run Tryz.prog v=.ok (.slice none 0 0) v:=by kernel_rfl
theorem AE (H p gm cm:Nat)(gl:Gl)(C:List (B×List Int))(Z:Int)(A:Option Addr)(n c:Nat)(ws:List P3)(hR:i8 v H p Z)(hP:ph v p gm cm gl C)(hw:i7 v 101 A n 3 (dP ws))(hn:n<=1000000000):
  Calls Tryz.prog 96 #[.pointer (H,0),A n c] v (vV v H p (bC gl C Z [] (af ws))):=by
 have ar:=J hw.rd.Z;have HR:=J hR;have HW:=J hw;have HP:=J hP;clear hR hw hP;go_enter Tryz.func96,Tryz.ntmps96
 go_wp2;go_step3;go_wp2;go_step3;go_wp2;go_loopw [5,14] (λw i wr=>∃k:Nat,k<=n/\i=.int .i64 k/\∃u a,Hid (bC gl C Z [] (af ws)=bC gl C u a ((af ws).drop k))/\List.length a<=1000/\lA 3 1 v H p u a.length (aC a) w wr) (λ_ i _=>n - (intOf i).toNat)
 case atStart=>exact⟨0,nz _,rfl,Z,[],rfl,by simp,lA.start HR (World.grownBy.refl _ _)⟩
 case round=>
  obtain⟨k,hk,rfl,u,a,r,aE,A4,c4,rfl,N,Y,V⟩:=hrel;by_cases av:k<n
  .obtain⟨b,o,x,y,z,rfl,hp,q1,q2,q3⟩:=CP HW HR V av;have d:=r.out;rw[X7 hp.out]at d;have ap:=(HP.grown HR V).keep (w':=wr.alloc (.cells #[x,y,.string z] 101)) (λb t cs hb _=>Below.heap_alloc _ _ _ hb.lt) (λb es c hb=>Below.heap_alloc _ _ _ (mq.1 hb).1);have q:=J Y;have O:wr.grownBy (wr.alloc (.cells #[x,y,.string z] 101)) (some H):=World.grownBy_alloc _ _ _;have I4:=J O;have HG:=J V;have aM:=V.size;have aN:H<wr.heap.size:=Y.lt;have S:=J (λv=>DA v z);have k0:wr.cell? (H,0)=some (.pointer (p,0)):=Y.cell 0;have k1:wr.cell? (H,1)=some (.int .i64 u):=Y.cell 1;have aw:wr.cell? (p,11)=some (.map (some cm)):=by obtain⟨cs,g1,g2,g3⟩:=(HP.grown HR V).par;exact(g1.cell 11).trans g3
   have aQ:p<wr.heap.size:=World.block_lt_of_cell? wr (p,11) aw;obtain⟨f,ab,ao⟩:=ap.cl;have K:=ab.ss Tryz.underlying91 Tryz.underlying9 (Xy _) (tC z);change (Instr.lookup 91 (.map (some cm)) (.string (tC z)) true).run Tryz.prog (wr.alloc (.cells #[x,y,.string z] 101))=_ at K;have SE:=J (λh=>Dn (wr.alloc (.cells #[x,y,.string z] 101)) H p gm gl u z h ap.gm);have g:iZ gl C u a z=if rk z then(match C.lookup (tC z)with|some c=>(u,a++c)|none=>(eC u 23,a))else(kV gl u z,a++[gX gl z]):=rfl
   cases T:rk z with
   |false=>
    rw[T]at g;have g:iZ gl C u a z=(kV gl u z,a++[gX gl z]):=g;have OM:=J T;obtain⟨vc,ok,aL⟩:∃vc ok,(Instr.lookup 91 (.map (some cm)) (.string (tC z)) true).run Tryz.prog (wr.alloc (.cells #[x,y,.string z] 101))=.ok (.tuple #[vc,.bool ok]) (wr.alloc (.cells #[x,y,.string z] 101)):=⟨_,_,K⟩
    have ad:Hid (aC (a++[gX gl z])=aC a++[.int .i64 (gX gl z)]):=G9 _ _;have L:Hid ((a++[gX gl z]).length=a.length+1):=by show _=_;simp
    generalize kV gl u z=W at*
    generalize gX gl z=vz at*
    have aa:∀P Q I U,(lA 3 1 v H p U (a++[vz]).length (aC (a++[vz])) (.slice P (a.length+1) Q) I)=(lA 3 1 v H p U (a.length+1) (aC a++[.int .i64 vz]) (.slice P (a.length+1) Q) I):=λP Q I U=>by rw[L.out,ad.out]
    have HX:=J aa;clear K ao ab T aa;by_cases he:W=0
    .by_cases hm:1000<a.length+1
     .skip
      subst he;have m:=J (d.trans (JW g (by rw[L.out];exact hm)));have e3:((1000:Int)<(a.length:Int)+1):=by omega
      clear d g ap hp r Y V O;go_wp2_with (first
       |(go_at_call 138;refine(S _).mono ?_;rintro e w0 ⟨rfl,rfl⟩;rw[OM.out])
       |(go_at_call 100;refine(SE (by exact q.alloc _)).mono ?_;rintro e w1 ⟨rfl,M,R⟩;have s:=dI I4 R;have z1:=s.size)
       |(at_builtin;refine jr iw rfl (.tmp 41) (.tmp 46) rfl w1 _ rfl v.heap.size a.length c4 A4 (aC a) #[vz] rfl rfl rfl (N.kept s (dC N q (by decide))) (by simp[Value.oneCell']) (by omega) (by omega) ?_;intro P Q I D E _;have j:=lA.next N q HG M s D E (by decide);have F:i8 I H p _:=j.tG;have X:=Bk.cell F 1;simp only[List.getElem?_toArray,oX,oj]at X;have G:=J j;have QP:=J F;clear j F)
       |(go_at_call 132;refine(tX I H p 0 2 QP).mono ?_;rintro e w3 ⟨rfl,ak,al⟩))
      try rw[Exit.noGoto_ret]
      go_ret
      unfold vV;rw[m.out];refine⟨.slice P (a.length+1) Q,rfl,?_⟩;show lA _ _ _ _ _ _ (a++[vz]).length (aC (a++[vz])) _ _;rw[HX.out];exact G.after ak al (by decide)
     skip
     subst he;have m:=J (d.trans (Uy g (by rw[L.out];omega)));have e3:¬((1000:Int)<(a.length:Int)+1):=by omega
     clear d g ap hp r Y V O;go_wp2_with (first
      |(go_at_call 138;refine(S _).mono ?_;rintro e w0 ⟨rfl,rfl⟩;rw[OM.out])
      |(go_at_call 100;refine(SE (by exact q.alloc _)).mono ?_;rintro e w1 ⟨rfl,M,R⟩;have s:=dI I4 R;have z1:=s.size)
      |(at_builtin;refine jr iw rfl (.tmp 41) (.tmp 46) rfl w1 _ rfl v.heap.size a.length c4 A4 (aC a) #[vz] rfl rfl rfl (N.kept s (dC N q (by decide))) (by simp[Value.oneCell']) (by omega) (by omega) ?_;intro P Q I D E _;have j:=lA.next N q HG M s D E (by decide);have F:i8 I H p _:=j.tG;have X:=Bk.cell F 1;simp only[List.getElem?_toArray,oX,oj]at X;have G:=J j;clear j F))
     go_roundw
     case rel=>exact⟨k+1,by omega,by simp,0,a++[vz],m,by rw[L.out];omega,by rw[HX.out];exact G⟩
     case measure=>simp[intOf];omega
    skip
    have m:=J (d.trans (Oo g he))
    have e2:(W !=0)=true:=by simpa using he
    clear d g he ap hp r Y V O;go_wp2_with (first
     |(go_at_call 138;refine(S _).mono ?_;rintro e w0 ⟨rfl,rfl⟩;rw[OM.out])
     |(go_at_call 100;refine(SE (by exact q.alloc _)).mono ?_;rintro e w1 ⟨rfl,M,R⟩;have s:=dI I4 R;have z1:=s.size)
     |(at_builtin;refine jr iw rfl (.tmp 41) (.tmp 46) rfl w1 _ rfl v.heap.size a.length c4 A4 (aC a) #[vz] rfl rfl rfl (N.kept s (dC N q (by decide))) (by simp[Value.oneCell']) (by omega) (by omega) ?_;intro P Q I D E _;have j:=lA.next N q HG M s D E (by decide);have F:i8 I H p _:=j.tG;have X:=Bk.cell F 1;simp only[List.getElem?_toArray,oX,oj]at X;have G:=J j;clear j F))
    try rw[Exit.noGoto_ret]
    go_ret
    unfold vV;rw[m.out];refine⟨.slice P (a.length+1) Q,rfl,?_⟩;show lA _ _ _ _ _ _ (a++[vz]).length (aC (a++[vz])) _ _;rw[HX.out];exact G
   |true=>
    rw[T]at g;have g:iZ gl C u a z=(match C.lookup (tC z)with|some c=>(u,a++c)|none=>(eC u 23,a)):=g;have OM:=J T;rcases ao (tC z)with⟨g1,g2⟩|⟨l,A9,c9,g1,g2,g3,g4⟩
    .rw[g1]at g;have g:iZ gl C u a z=(eC u 23,a):=g;rw[g2]at K;have he:eC u 23≠0:=by unfold eC;split<;>omega
     have m:=J (d.trans (Oo g he));have ay:=J (λh=>tX (wr.alloc (.cells #[x,y,.string z] 101)) H p u 23 h);generalize eC u 23=W at*
     have e2:(W !=0)=true:=by simpa using he
     clear d g he ap hp r Y V O g1 g2 T ab;go_wp2_with (first
      |(go_at_call 138;refine(S _).mono ?_;rintro e w0 ⟨rfl,rfl⟩;rw[OM.out])
      |(go_at_call 132;refine(ay (by exact q.alloc _)).mono ?_;rintro e I ⟨rfl,M,R⟩;have s:=dI I4 R;have X:=Bk.cell M 1;simp only[List.getElem?_toArray,oX,oj]at X;have mg:=J M;have EP:=J s;clear M s R))
     try rw[Exit.noGoto_ret]
     go_ret
     unfold vV;rw[m.out];exact⟨_,rfl,A4,c4,rfl,N.kept EP (dC N q (by decide)),mg,dI HG EP⟩
    rw[g1]at g;have g:iZ gl C u a z=(u,a++l):=g;rw[g2]at K;have aq:=Zv g3 (Bd:=(wr.alloc (.cells #[x,y,.string z] 101)).heap.size) (λb ⟨cs,t,hb,_⟩=>hb.lt);have ad:Hid (aC (a++l)=aC a++aC l):=G9 _ _;have L:Hid ((a++l).length=a.length+l.length):=by show _=_;simp
    have aa:∀P Q I U,(lA 3 1 v H p U (a++l).length (aC (a++l)) (.slice P (a.length+l.length) Q) I)=(lA 3 1 v H p U (a.length+l.length) (aC a++aC l) (.slice P (a.length+l.length) Q) I):=λP Q I U=>by rw[L.out,ad.out]
    have HX:=J aa;have KJ:=J aq;clear g1 g2 g3 T ab aa aq;by_cases he:u=0
    .by_cases hm:1000<a.length+l.length
     .skip
      subst he;have m:=J (d.trans (JW g (by rw[L.out];exact hm)));have e3:((1000:Int)<(a.length:Int)+(l.length:Int)):=by omega
      clear d g ap hp r Y V O;go_wp2_with (first
       |(go_at_call 138;refine(S _).mono ?_;rintro e w0 ⟨rfl,rfl⟩;rw[OM.out])
       |(at_builtin;refine Dc iw rfl (.tmp 50) (.tmp 51) rfl (wr.alloc (.cells #[x,y,.string z] 101)) v.heap.size a.length c4 A4 (aC a) _ A9 l.length c9 (aC l) rfl rfl (N.alloc _) KJ (wW l) (by omega) (by simp;omega) ?_;intro P Q I D E _;have j:=lA.next N q HG (q.alloc _) I4 D E (by decide);have F:i8 I H p _:=j.tG;have X:=Bk.cell F 1;simp only[List.getElem?_toArray,oX,oj]at X;have G:=J j;have QP:=J F;clear j F)
       |(go_at_call 132;refine(tX I H p 0 2 QP).mono ?_;rintro e w3 ⟨rfl,ak,al⟩))
      try rw[Exit.noGoto_ret]
      go_ret
      unfold vV;rw[m.out];refine⟨.slice P (a.length+l.length) Q,rfl,?_⟩;show lA _ _ _ _ _ _ (a++l).length (aC (a++l)) _ _;rw[HX.out];exact G.after ak al (by decide)
     skip
     subst he;have m:=J (d.trans (Uy g (by rw[L.out];omega)));have e3:¬((1000:Int)<(a.length:Int)+(l.length:Int)):=by omega
     clear d g ap hp r Y V O;go_wp2_with (first
      |(go_at_call 138;refine(S _).mono ?_;rintro e w0 ⟨rfl,rfl⟩;rw[OM.out])
      |(at_builtin;refine Dc iw rfl (.tmp 50) (.tmp 51) rfl (wr.alloc (.cells #[x,y,.string z] 101)) v.heap.size a.length c4 A4 (aC a) _ A9 l.length c9 (aC l) rfl rfl (N.alloc _) KJ (wW l) (by omega) (by simp;omega) ?_;intro P Q I D E _;have j:=lA.next N q HG (q.alloc _) I4 D E (by decide);have F:i8 I H p _:=j.tG;have X:=Bk.cell F 1;simp only[List.getElem?_toArray,oX,oj]at X;have G:=J j;clear j F))
     go_roundw
     case rel=>exact⟨k+1,by omega,by simp,0,a++l,m,by rw[L.out];omega,by rw[HX.out];exact G⟩
     case measure=>simp[intOf];omega
    skip
    have m:=J (d.trans (Oo g he))
    have e2:(u !=0)=true:=by simpa using he
    clear d g he ap hp r Y V O;go_wp2_with (first
     |(go_at_call 138;refine(S _).mono ?_;rintro e w0 ⟨rfl,rfl⟩;rw[OM.out])
     |(at_builtin;refine Dc iw rfl (.tmp 50) (.tmp 51) rfl (wr.alloc (.cells #[x,y,.string z] 101)) v.heap.size a.length c4 A4 (aC a) _ A9 l.length c9 (aC l) rfl rfl (N.alloc _) KJ (wW l) (by omega) (by simp;omega) ?_;intro P Q I D E _;have j:=lA.next N q HG (q.alloc _) I4 D E (by decide);have F:i8 I H p _:=j.tG;have X:=Bk.cell F 1;simp only[List.getElem?_toArray,oX,oj]at X;have G:=J j;clear j F))
    try rw[Exit.noGoto_ret]
    go_ret
    unfold vV;rw[m.out];refine⟨.slice P (a.length+l.length) Q,rfl,?_⟩;show lA _ _ _ _ _ _ (a++l).length (aC (a++l)) _ _;rw[HX.out];exact G
  obtain rfl:k=n:=by omega
  have ac:bC gl C Z [] (af ws)=(u,a):=by rw[r.out,sj (by rw[ji,ar.out];exact ae _)];rfl
  have aD:=J ac;clear ac;go_wp2
  try rw[Exit.noGoto_ret]
  go_ret
  unfold vV;rw[aD.out];exact⟨_,rfl,A4,c4,rfl,N,Y,V⟩
theorem Mf (u:Nat)(h:u<=9223372036854775808):(lT u).length<=19:=Gd 18 u (by show u<10000000000000000000;omega)
theorem An (q:Nat):(q:Int).tmod 10=((q % 10:Nat):Int):=by rw[Int.tmod_eq_emod_of_nonneg (by omega)];omega
theorem Sd (q:Nat):(-(q:Int)).tmod 10= -((q % 10:Nat):Int):=by rw[Int.neg_tmod,An]
theorem zF (q:Nat):(q:Int).tdiv 10=((q / 10:Nat):Int):=by rw[Int.tdiv_eq_ediv_of_nonneg (by omega)];omega
theorem Sc (q:Nat):(-(q:Int)).tdiv 10= -((q / 10:Nat):Int):=by rw[Int.neg_tdiv,zF]
def sT (v:Value):Nat:=match v with| .string b=>b.data.size|_=>0
theorem Nq (h:(t=[]/\q=e)\/(t≠[]/\lT e=sO q++t))(hq:t=[]\/0<q):qB q::t≠[]/\lT e=sO (q / 10)++(qB q::t):=by
 refine⟨by simp,?_⟩;rcases h with⟨rfl,rfl⟩|⟨b,c⟩
 .exact XW q
 have d:0<q:=by
  rcases hq with hq|hq
  .exact absurd hq b
  exact hq
 rw[c,Ge q d];simp
theorem Wi (h:(t=[]/\0=e)\/(t≠[]/\lT e=sO 0++t))(b:t≠[]):lT e=t:=by
 rcases h with⟨rfl,_⟩|⟨_,c⟩
 .exact absurd rfl b
 rw[c,sO,if_pos rfl,pG]
theorem OZ (h:(t=[]/\q=e)\/(t≠[]/\lT e=sO q++t))(b:e<=9223372036854775808):t.length<=19:=by
 rcases h with⟨rfl,_⟩|⟨_,c⟩
 .simp
 have d:=congrArg List.length c;have U:=Mf e b;rw[la]at d;omega
theorem X6 (U:Nat)(h:U<=9223372036854775807):Calls Tryz.prog 69 #[.int .i64 U] v λe i=>e=.returned (.string ⟨(lT U++[32]).toArray⟩)/\Below v.heap.size v i:=by
 have j:decide ((U:Int)<0)=false:=by simp
 have l:Hid (U<=9223372036854775807):=J h;go_enter Tryz.func69,Tryz.ntmps69
 go_wp2;go_loopw [3,4] (λs k wr=>∃(q:Nat) (a:B),k=.int .i64 q/\s=.string ⟨a.toArray⟩/\Hid ((a=[]/\q=U)\/(a≠[]/\lT U=sO q++a))/\q<=9223372036854775807/\Below v.heap.size v wr) (λs k _=>(intOf k).natAbs+(1 - sT s))
 case atStart=>exact⟨U,[],rfl,rfl,J (.inl ⟨rfl,rfl⟩),l,gD _ _⟩
 case round=>
  obtain⟨q,a,rfl,rfl,b,t,c⟩:=hrel;have m:=OZ b (by omega);have u:=An q;have n:=zF q;by_cases o:q=0
  .subst o;by_cases g:a=[]
   .subst g;have d:=J (Nq b (.inl rfl));have p:=λv=>Qw v 48 0 (by simp)
    have f:(ByteArray.mk #[qB 0])++⟨#[]⟩=⟨#[qB 0]⟩:=vW [qB 0] [];go_wp2;go_roundw
    case rel=>exact⟨0,[qB 0],by simp,rfl,J (.inr d),by omega,c.alloc c.size _⟩
    case measure=>simp[intOf,sT]
   have r:=J (Wi b g);have f:(ByteArray.mk a.toArray)++⟨#[32]⟩=⟨(a++[32]).toArray⟩:=vW a [32];have w:(a==[])=false:=by simpa using g
   clear g;go_wp2;go_ret
   exact⟨by rw[r.out];first|rfl|simp,c⟩
  have d:=J (Nq b (.inr (by omega)));have p:=λv=>Qw v (48+(q:Int) % 10) q rfl
  have f:(ByteArray.mk #[qB q])++⟨a.toArray⟩=⟨(qB q::a).toArray⟩:=vW [qB q] a;have x:((q:Int) !=0)=true:=by simp;omega
  go_wp2;go_roundw
  case rel=>exact⟨q / 10,qB q::a,by simp,rfl,J (.inr d),by omega,c.alloc c.size _⟩
  case measure=>simp[intOf,sT];omega
theorem NO (q:Nat):(-(q:Int)).tmod 10= -((q:Int) % 10):=by rw[Sd];omega
theorem NA (q:Nat):(-(q:Int)).tdiv 10= -((q:Int) / 10):=by rw[Sc];omega
theorem X5 (U:Nat)(w:1<=U)(y:U<=9223372036854775808):Calls Tryz.prog 69 #[.int .i64 (-(U:Int))] v λe z=>e=.returned (.string (45::(lT U++[32])))/\Below v.heap.size v z:=by
 have A:decide (0<U)=true:=by simp;omega
 have p:Hid (U<=9223372036854775808):=J y;have C:Hid (1<=U):=J w;go_enter Tryz.func69,Tryz.ntmps69
 go_wp2;go_loopw [3,4] (λs k wr=>∃(q:Nat) (a:B),k=.int .i64 (-(q:Int))/\s=.string a/\Hid ((a=[]/\q=U)\/(a≠[]/\lT U=sO q++a))/\q<=9223372036854775808/\Below v.heap.size v wr) (λs k _=>(intOf k).natAbs)
 case atStart=>exact⟨U,[],rfl,rfl,J (.inl ⟨rfl,rfl⟩),p,gD _ _⟩
 case round=>
  obtain⟨q,a,rfl,rfl,b,L,c⟩:=hrel;have D:=OZ b p;have r:=NO q;have i:=NA q;by_cases E:q=0
  .subst E
   have j:a≠[]:=by
    rintro rfl;rcases b with⟨_,h⟩|⟨h,_⟩
    .have:=C.out;omega
    exact h rfl
   have F:=J (Wi b j);have l:(ByteArray.mk #[45])++⟨a.toArray⟩=⟨(45::a).toArray⟩:=vW [45] a;have m:(45::a).length<=20:=by rw[aV];omega
   obtain⟨n,d⟩:∃x,(45::a:B)=x:=⟨_,rfl⟩
   rw[d]at l m;have o:(ByteArray.mk n.toArray)++⟨#[32]⟩=⟨(n++[32]).toArray⟩:=vW n [32];have M:(a==[])=false:=by simpa using j
   have G:=J d;clear j r i d;go_wp2;go_ret
   exact⟨by rw[F.out,<-G.out];first|rfl|simp,c⟩
  have f:=J (Nq b (.inr (by omega)));have H:=λv=>Qw v (48+(q:Int) % 10) q rfl
  have o:(ByteArray.mk #[qB q])++⟨a.toArray⟩=⟨(qB q::a).toArray⟩:=vW [qB q] a;have N:((-(q:Int)) !=0)=true:=by simp;omega
  have I:((q:Int) !=0)=true:=by simp;omega
  by_cases g:(q:Int) % 10=0
  .have P:decide ((q:Int) % 10=0)=true:=by simpa using g
   have t:decide (0<(q:Int) % 10)=false:=by simp;omega
   have K:=λv=>Qw v 48 q (by omega)
   rw[g]at r;clear g H P t;go_wp2;go_roundw
   case rel=>exact⟨q / 10,qB q::a,by simp,rfl,J (.inr f),by omega,c.alloc c.size _⟩
   case measure=>simp[intOf];omega
  have t:decide (0<(q:Int) % 10)=true:=by simp;omega
  have u:0<=(q:Int) % 10/\(q:Int) % 10<10:=by omega
  obtain⟨u,O⟩:=u;clear g;go_wp2;go_roundw
  case rel=>exact⟨q / 10,qB q::a,by simp,rfl,J (.inr f),by omega,c.alloc c.size _⟩
  case measure=>simp[intOf];omega
theorem aG (n:Int)(h:gN n):Calls Tryz.prog 69 #[.int .i64 n] v λe d=>e=.returned (.string ⟨(ai n).toArray⟩)/\Below v.heap.size v d:=by
 unfold gN at h;by_cases c:n<0
 .have a:n= -((n.natAbs:Nat):Int):=by omega
  have b:ai n=45::(lT n.natAbs++[32]):=by rw[ai,ag,Lib.itoa,if_pos c,Ry];rfl
  rw[b]
  conv=>arg 3;rw[a]
  exact X5 v n.natAbs (by omega) (by omega)
 have a:n=((n.toNat:Nat):Int):=by omega
 have b:ai n=lT n.toNat++[32]:=by rw[ai,ag,Lib.itoa,if_neg c,Ry]
 rw[b]
 conv=>arg 3;rw[a]
 exact X6 v n.toNat (by omega)
theorem UT (b:Bool):Calls Tryz.prog 116 #[.bool b] v λe a=>e=.returned (.string (zX b))/\Below v v a:=by
 cases b
 .go_enter Tryz.func116,Tryz.ntmps116
  go_wp2;go_ret
  exact⟨rfl,gD _ _⟩
 go_enter Tryz.func116,Tryz.ntmps116
 go_wp2;go_ret
 exact⟨rfl,gD _ _⟩
