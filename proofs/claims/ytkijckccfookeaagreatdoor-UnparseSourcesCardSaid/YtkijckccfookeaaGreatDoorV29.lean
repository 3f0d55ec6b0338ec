/- parse: a rule's words cut. -/
import Derived.Test.YtkijckccfookeaaGreatDoorV28
import Derived.Sort.OwnSortedInts
set_option linter.unusedVariables false
set_option linter.unusedSimpArgs false
set_option maxRecDepth 100000
set_option maxHeartbeats 32000000
namespace Go.Proofs.YtkijckccfookeaaGreatDoor
section
open Go.RowKit
attribute [-go_sem] Builtin.append_
def dP:Nat->List P3->List (List P3)->List P3->Option (List (List P3))
 |n,cur,told,[]=>if n=3 then some (told++[cur]) else none
 |n,cur,told,w::r=>
  if w.2.2≠[47]/\w.2.2≠[62] then dP n (cur++[w]) told r
  else if(n<2/\w.2.2=[47])\/(n=2/\w.2.2=[62]) then dP (n+1) [] (told++[cur]) r else none
def ku (ws:List P3):Option (List (List P3)):=dP 0 [] [] ws
theorem LU (n:Nat)(cur:List P3)(told:List (List P3))(ws:List P3):fQ n (af cur) (told.map af) (af ws)=(dP n cur told ws).map (List.map af):=by
 induction ws generalizing n cur told with
 |nil=>
  show fQ n (af cur) (told.map af) []=_;rw[fQ,dP];split
  ·simp
  rfl
 |cons w r ih=>
  show fQ n (af cur) (told.map af) (w.2.2::af r)=_;rw[fQ,dP];split
  ·have:=ih n (cur++[w]) told;rw[show af (cur++[w])=af cur++[w.2.2] by simp[af]] at this;exact this
  split
  ·have:=ih (n+1) [] (told++[cur]);rw[akY] at this;exact this
  rfl
theorem NI (ws:List P3):oP (af ws)=(ku ws).map (List.map af):=LU 0 [] [] ws
theorem PP (n:Nat)(cur:List P3)(told:List (List P3))(ws:List P3)(rows:List (List P3))(hn:n=told.length)(h:dP n cur told ws=some rows):rows.length=4/\∀r∈rows,r∈told\/r.length<=cur.length+ws.length:=by
 induction ws generalizing n cur told with
 |nil=>
  rw[dP] at h;split at h
  ·cases h;refine⟨by simp;omega,fun r hr=> ?_⟩;rcases akq.1 hr with g|g
   ·exact .inl g
   simp only[akm] at g;subst g;exact .inr (by simp)
  cases h
 |cons w r ih=>
  rw[dP] at h;split at h
  ·obtain⟨g1,g2⟩:=ih n (cur++[w]) told hn h;refine⟨g1,fun x hx=>(g2 x hx).imp id fun g=> ?_⟩;simp only[aF,la,ln] at g ⊢;omega
  split at h
  ·obtain⟨g1,g2⟩:=ih (n+1) [] (told++[cur]) (by simp[hn]) h;refine⟨g1,fun x hx=> ?_⟩;rcases g2 x hx with g|g
   ·rcases akq.1 g with g|g
    ·exact .inl g
    simp only[akm] at g;subst g;exact .inr (by omega)
   exact .inr (by simp only[aF,ln] at g ⊢;omega)
  cases h
theorem Ny {ws:List P3}{rows:List (List P3)}(h:ku ws=some rows):rows.length=4/\∀r∈rows,r.length<=ws.length:=by obtain⟨h1,h2⟩:=PP 0 [] [] ws rows rfl h;exact⟨h1,fun r hr=>(h2 r hr).elim (fun g=>by simp at g) (fun g=>by simpa using g)⟩
abbrev iO:TypeId:=208
abbrev ul:TypeId:=242
abbrev dW:TypeId:=124
def dH (hs:List Value)(v:Value):Array Value:=(hs++[v]++List.replicate (3 - hs.length) (Value.slice none 0 0)).toArray
def rP:Array Value:= #[.string ⟨#[47]⟩,.string ⟨#[47]⟩,.string ⟨#[62]⟩]
theorem Py (hs:List Value)(v:Value):(dH hs v)[hs.length]? =some v:=by simp[dH]
theorem Zp (hs:List Value)(v u:Value):(dH hs v).setIfInBounds hs.length u=dH hs u:=by simp[dH]
theorem VN (hs:List Value)(v:Value)(h:hs.length<3):dH (hs++[v]) (.slice none 0 0)=dH hs v:=by
 unfold dH;congr 1
 have:3 - hs.length=(3 - (hs++[v]).length)+1:=by simp;omega
 rw[this,List.replicate_succ];simp
theorem WC (hs:List Value)(v:Value)(h:hs.length<=3):∃a b c d,dH hs v= #[a,b,c,d]:=by
 have hl:(dH hs v).toList.length=4:=by simp[dH];omega
 match hm:(dH hs v).toList,hl with
 |[a,b,c,d],_=>exact⟨a,b,c,d,by rw[<-Array.toList_inj,hm]⟩
def aiL (w:World)(ws:List P3)(k n:Nat)(wr:World):Prop:=
 ∃told hs cur A c Wo,hs.length=n/\told.length=n/\n<=3/\cur.length<=k/\dP n cur told (ws.drop k)=ku ws/\Below w.heap.size w Wo/\w.heap.size+1<Wo.heap.size/\RowsIn dW Wo hs told/\Wo.grownBy wr (some w.heap.size)/\
  wr.ownsRow Wo.heap.size dW 3 (.slice A cur.length c) cur.length (dA cur)/\Bk wr w.heap.size iO (dH hs (.slice A cur.length c))/\Bk wr (w.heap.size+1) ul rP/\(∃cs0,Bk Wo w.heap.size iO cs0)
theorem aiL.low {w wr:World}{ws:List P3}{k n:Nat}(h:aiL w ws k n wr):Below w.heap.size w wr:=by obtain⟨told,hs,cur,A,c,Wo,-,-,-,-,-,h6,h7,-,h9,-⟩:=h;exact h6.grown h9 h6.size (fun g e=>by cases e;exact nr _)
theorem RowsIn.keepW {w w':World}{hs:List Value}{rows:List (List P3)}(h:RowsIn dW w hs rows){P:Nat}{t:TypeId}{cs:Array Value}(hb:Bk w P t cs)(hg:w.grownBy w' (some P))(hne:dW≠t):RowsIn dW w' hs rows:=h.kept fun _ _ _ hr=>hr.grown hg (fun g e=>by cases e;exact⟨cs,t,hb,hne⟩)
theorem aiL.more {w wr w9:World}{ws:List P3}{k n:Nat}{told:List (List P3)}{hs:List Value}{cur:List P3}{A A':Option Addr}{c c':Nat}{Wo:World}{q:P3}(h1:hs.length=n)(h2:told.length=n)(h3:n<=3)(h4:cur.length<=k)(h5:dP n cur told (ws.drop k)=ku ws)(h6:Below w.heap.size w Wo)(h7:w.heap.size+1<Wo.heap.size)(h8:RowsIn dW Wo hs told)
  (h9:Wo.grownBy wr (some w.heap.size)) (h10:wr.ownsRow Wo.heap.size dW 3 (.slice A cur.length c) cur.length (dA cur)) (h11:Bk wr w.heap.size iO (dH hs (.slice A cur.length c))) (h12:Bk wr (w.heap.size+1) ul rP)
  (hq:ws[k]? =some q) (q1:q.2.2≠[47]) (q2:q.2.2≠[62]) (o:Obj) (ho:w9.ownsRow Wo.heap.size dW 3 (.slice A' (cur.length+1) c') (cur.length+1) (dA cur++c3 q)) (hg:(wr.alloc o).grownBy w9 (Value.slice A cur.length c).ownBlock) {cs0:Array Value} (h13:Bk Wo w.heap.size iO cs0):
  aiL w ws (k+1) n (w9.setCell ⟨w.heap.size,n,none⟩ (.slice A' (cur.length+1) c')):=by
 have hown:=h10.alloc o;have b9:Bk w9 w.heap.size iO (dH hs (.slice A cur.length c)):=Bk.grown (h11.alloc o) hg hown (by decide);have c9:Bk w9 (w.heap.size+1) ul rP:=Bk.grown (h12.alloc o) hg hown (by decide);have hlow:∀g,(Value.slice A cur.length c).ownBlock=some g->Wo.heap.size<=g:=fun g e=>(h10.lt g e).1
 refine⟨told,hs,cur++[q],A',c',Wo,h1,h2,h3,by simp;omega,?_,h6,h7,h8,?_,?_,?_,Bk.far c9 (by simp) _,⟨cs0,h13⟩⟩
 ·rw[<-h5,uh ws k q hq,dP,if_pos ⟨q1,q2⟩]
 ·have g1:Wo.grownBy w9 (some w.heap.size):=⟨hg.os.trans h9.os,hg.tape.trans h9.tape,hg.output.trans h9.output,nt h9.size (nt (by simp) hg.size),fun i hi hne=>by
   refine((hg.block i (by have:=h9.size;simp;omega) fun e=> ?_).trans (Below.heap_alloc _ _ _ (aku hi h9.size))).trans (h9.block i hi hne);have:=hlow i e.symm;omega⟩
  exact bZ g1 (dC w9 ⟨w.heap.size,n,none⟩ _)
 ·rw[la,xY];have:dA [q]=c3 q:=by simp[dA]
  rw[this];exact qA ho b9 (by decide) n _
 have:=b9.set n (.slice A' (cur.length+1) c');rw[<-h1,Zp] at this;rw[la,<-h1];exact this
theorem aiL.next {w wr w9:World}{ws:List P3}{k n:Nat}{told:List (List P3)}{hs:List Value}{cur:List P3}{A:Option Addr}{c:Nat}{Wo:World}{q:P3}(h1:hs.length=n)(h2:told.length=n)(h5:dP n cur told (ws.drop k)=ku ws)(h6:Below w.heap.size w Wo)(h7:w.heap.size+1<Wo.heap.size)(h8:RowsIn dW Wo hs told)
  (h9:Wo.grownBy wr (some w.heap.size)) (h10:wr.ownsRow Wo.heap.size dW 3 (.slice A cur.length c) cur.length (dA cur)) (h11:Bk wr w.heap.size iO (dH hs (.slice A cur.length c))) (h12:Bk wr (w.heap.size+1) ul rP) {cs0:Array Value} (h13:Bk Wo w.heap.size iO cs0)
  (hq:ws[k]? =some q) (q1:(n<2/\q.2.2=[47])\/(n=2/\q.2.2=[62])) (hb:Below wr.heap.size wr w9):aiL w ws (k+1) (n+1) w9:=by
 have r1:=((h8.keepW h13 h9 (by decide)).snoc (jf h10) (xu h10)).below hb;have s1:=h6.size;have s2:=h9.size;have s3:=hb.size;refine⟨told++[cur],hs++[.slice A cur.length c],[],none,0,w9,by simp[h1],by simp[h2],by omega,by simp,?_,?_,by omega,r1,World.grownBy.refl _ _,World.ownsRow_nil _ _ _ _,?_,h12.keep (hb.block _ h12.lt),⟨_,h11.keep (hb.block _ h11.lt)⟩⟩
 ·rw[<-h5,uh ws k q hq,dP,if_neg ?_,if_pos q1];rintro⟨g1,g2⟩;rcases q1 with⟨_,h⟩|⟨_,h⟩
  ·exact g1 h
  exact g2 h
 ·exact((h6.grown h9 h6.size (fun g e=>by cases e;exact nr _))).trans (hb.mono (by omega))
 rw[ln,VN _ _ (by omega)];exact h11.keep (hb.block _ h11.lt)
def Ou (w:World)(ws:List P3)(e:Ending)(w':World):Prop:=
 Below w.heap.size w w'/\∃A0 k0 c0 A1 k1 c1 A2 k2 c2 A3 k3 c3,match ku ws with
  |none=>e= .returned (.tuple #[.agg #[.slice A0 k0 c0,.slice A1 k1 c1,.slice A2 k2 c2,.slice A3 k3 c3],.bool false])
  |some rows=>e= .returned (.tuple #[.agg #[.slice A0 k0 c0,.slice A1 k1 c1,.slice A2 k2 c2,.slice A3 k3 c3],.bool true])/\RowsIn dW w' [.slice A0 k0 c0,.slice A1 k1 c1,.slice A2 k2 c2,.slice A3 k3 c3] rows
theorem Y9 {ws:List P3}{k n:Nat}{told:List (List P3)}{cur:List P3}(h5:dP n cur told (ws.drop k)=ku ws)(hk:ws.length<=k):ku ws=if n=3 then some (told++[cur]) else none:=by rw[<-h5,akU hk,dP]
theorem Y3 {ws:List P3}{k n:Nat}{told:List (List P3)}{cur:List P3}{q:P3}(h5:dP n cur told (ws.drop k)=ku ws)(hq:ws[k]? =some q)(q0:q.2.2=[47]\/q.2.2=[62])(q1:¬((n<2/\q.2.2=[47])\/(n=2/\q.2.2=[62]))):ku ws=none:=by
 rw[<-h5,uh ws k q hq,dP,if_neg ?_,if_neg q1];rintro⟨g1,g2⟩;rcases q0 with h|h
 ·exact g1 h
 exact g2 h
end
section
open Go.RowKit
attribute [-go_sem] Builtin.append_
theorem aiL.start (w:World)(ws:List P3):aiL w ws 0 0 ((w.alloc (.cells #[.slice none 0 0,.slice none 0 0,.slice none 0 0,.slice none 0 0] iO)).alloc (.cells #[.string ⟨#[47]⟩,.string ⟨#[47]⟩,.string ⟨#[62]⟩] ul)):=by
 have h1:Bk (w.alloc (.cells #[.slice none 0 0,.slice none 0 0,.slice none 0 0,.slice none 0 0] iO)) w.heap.size iO (dH [] (.slice none 0 0)):=Bk.new _ _ _;have h2:=h1.alloc (.cells #[.string ⟨#[47]⟩,.string ⟨#[47]⟩,.string ⟨#[62]⟩] ul);have h3:Bk ((w.alloc (.cells #[.slice none 0 0,.slice none 0 0,.slice none 0 0,.slice none 0 0] iO)).alloc (.cells #[.string ⟨#[47]⟩,.string ⟨#[47]⟩,.string ⟨#[62]⟩] ul)) (w.heap.size+1) ul rP:=by have:=Bk.new (w.alloc (.cells #[.slice none 0 0,.slice none 0 0,.slice none 0 0,.slice none 0 0] iO)) ul rP;simpa [rP] using this
 refine⟨[],[],[],none,0,_,rfl,rfl,by omega,by simp,rfl,?_,by simp,RowsIn.nil _ _,World.grownBy.refl _ _,World.ownsRow_nil _ _ _ _,h2,h3,⟨_,h2⟩⟩;exact((akl _ _).alloc (nr _) _).alloc (by simp) _
theorem RowsIn.slices {t:TypeId}{w:World}{hs:List Value}{rows:List (List P3)}(h:RowsIn t w hs rows):∀u∈hs,∃A n c,u= .slice A n c:=by
 intro u hu;obtain⟨i,hi⟩:=akG.1 hu;have hl:i<rows.length:=by rw[<-h.1];exact(akn.1 hi).1
 obtain⟨A,k,c,h1,-,-⟩:=h.2 i rows[i] (ako hl);rw[hi] at h1;cases h1;exact⟨A,k,c,rfl⟩
theorem IW (hs:List Value)(A:Option Addr)(n c:Nat)(h:hs.length<=3)(hsl:∀u∈hs,∃A n c,u=Value.slice A n c):∃A0 n0 c0 A1 n1 c1 A2 n2 c2 A3 n3 c3,dH hs (.slice A n c)= #[.slice A0 n0 c0,.slice A1 n1 c1,.slice A2 n2 c2,.slice A3 n3 c3]:=by
 obtain⟨a,b,c',d,e⟩:=WC hs (.slice A n c) h;have hall:∀u∈(dH hs (.slice A n c)).toList,∃A n c,u=Value.slice A n c:=by
  intro u hu;simp only[dH,akq,akm,List.mem_replicate] at hu;rcases hu with(hu|rfl)|⟨_,rfl⟩
  ·exact hsl u hu
  ·exact⟨_,_,_,rfl⟩
  exact⟨_,_,_,rfl⟩
 rw[e] at hall;obtain⟨A0,n0,c0,rfl⟩:=hall a (by simp);obtain⟨A1,n1,c1,rfl⟩:=hall b (by simp);obtain⟨A2,n2,c2,rfl⟩:=hall c' (by simp);obtain⟨A3,n3,c3,rfl⟩:=hall d (by simp);exact⟨_,_,_,_,_,_,_,_,_,_,_,_,e⟩
theorem LJ {W:World}{g:Nat}{t:TypeId}{a b c d:Value}(h:Bk W g t #[a,b,c,d]):Bk ((((W.setCell ⟨g,0,none⟩ a).setCell ⟨g,1,none⟩ b).setCell ⟨g,2,none⟩ c).setCell ⟨g,3,none⟩ d) g t #[a,b,c,d]:=by have:=(((h.set 0 a).set 1 b).set 2 c).set 3 d;simpa using this
theorem G7 {w W:World}{g:Nat}(h:Below w.heap.size w W)(hg:w.heap.size<=g)(a b c d:Value):Below w.heap.size w ((((W.setCell ⟨g,0,none⟩ a).setCell ⟨g,1,none⟩ b).setCell ⟨g,2,none⟩ c).setCell ⟨g,3,none⟩ d):=(((h.setCell hg a).setCell hg b).setCell hg c).setCell hg d
theorem Uz (W:World)(g:Nat)(a b c d:Value):W.grownBy ((((W.setCell ⟨g,0,none⟩ a).setCell ⟨g,1,none⟩ b).setCell ⟨g,2,none⟩ c).setCell ⟨g,3,none⟩ d) (some g):=bZ (bZ (bZ (dC W ⟨g,0,none⟩ a) (dC _ ⟨g,1,none⟩ b)) (dC _ ⟨g,2,none⟩ c)) (dC _ ⟨g,3,none⟩ d)
theorem ZM:(Tryz.prog.info? iO).map (·.size)=some 4:=by kernel_rfl
theorem wE {W:World}{g:Nat}{a b c d v:Value}{tmps:Array Value}(hb:Bk W g iO #[a,b,c,d])(h2:tmps.getD 2 undef= .pointer (some ⟨g,0,none⟩))(h3:tmps.getD 3 undef=v):(results Tryz.f134 tmps).run Tryz.prog W= .ok (.tuple #[.agg #[a,b,c,d],v]) W:=by rw[results_cell_tmp (fn:=Tryz.f134) (p:=2) (u:=3) (ty:=iO) rfl,h2,h3];have:=run_loadVar_row (P:=Tryz.prog) W g iO iO #[a,b,c,d] (0,0) _ hb Tryz.underlying208 rfl (by rw[ZM];rfl);simp[asAddr,Result.andThen,this]
theorem QP (w:World)(A:Option Addr)(n c:Nat)(ws:List P3)(hr:RdT w dW A n 3 (dA ws))(hn:n<=1000000000):
  Calls Tryz.prog 134 #[.slice A n c] w (Ou w ws):=by
 have hwl:=hd0 hr.rd.aiE;have HW:=hd0 hr;have HS:=hd0 (aiL.start w ws);clear hr;go_enter Tryz.func134,Tryz.ntmps134
 go_wp2_with fail
 go_loopw [5,11] (fun pv i wr=>∃k np:Nat,k<=n/\i= .int .i64 k/\pv= .int .i64 np/\aiL w ws k np wr) (fun _ i _=>n - (intOf i).toNat)
 case atStart=>exact⟨0,0,by omega,rfl,rfl,HS.out⟩
 case round=>
  obtain⟨k,np,hk,rfl,rfl,hst⟩:=hrel;have hlow:=hst.low;obtain⟨told,hs,cur,A1,c1,Wo,h1,h2,h3,h4,h5,h6,h7,h8,h9,h10,h11,h12,cs0,h13⟩:=hst;by_cases hlt:k<n
  ·obtain⟨b,o,x,y,z,rfl,hb,hp,q1,q2,q3⟩:=HW.out.rd.at3 hlt;have p1:wr.cell? ⟨b,o+k*3,none⟩=some (.int .i64 x):=((aj hlow).1 _ _ hb).trans q1;have p2:wr.cell? ⟨b,o+k*3+1,none⟩=some (.int .i64 y):=((aj hlow).1 _ _ hb).trans q2;have p3:wr.cell? ⟨b,o+k*3+2,none⟩=some (.string ⟨z.toArray⟩):=((aj hlow).1 _ _ hb).trans q3;have a_n:wr.cell? ⟨w.heap.size,np,none⟩=some (.slice A1 cur.length c1):=(h11.cell np).trans (by rw[<-h1];exact Py hs _);have hsw:w.heap.size<wr.heap.size:=h11.lt;have hn4:(np:Int)<4:=by omega
   by_cases hA:z≠[47]/\z≠[62]
   ·have e1:(z==[47])=false:=by simpa using hA.1
    have e2:(z==[62])=false:=by simpa using hA.2
    obtain⟨A5,c5,w9,hrun,di,aN,bz⟩:=iE acg 119 (wr.alloc (.cells #[.int .i64 x,.int .i64 y,.string ⟨z.toArray⟩] dW)) Wo.heap.size cur.length c1 A1 (dA cur) #[.int .i64 x,.int .i64 y,.string ⟨z.toArray⟩] rfl (h10.alloc _) (by simp[Value.oneCell']) (by omega) (by have:=h9.size;simp;omega);have hszA:(wr.alloc (.cells #[.int .i64 x,.int .i64 y,.string ⟨z.toArray⟩] dW)).heap.size=wr.heap.size+1:=by simp
    rw[hszA] at hrun;have Hnx:=hd0 (aiL.more h1 h2 h3 h4 h5 h6 h7 h8 h9 h10 h11 h12 hp.out hA.1 hA.2 _ di aN h13);have b9:Bk w9 w.heap.size iO (dH hs (.slice A1 cur.length c1)):=Bk.grown (h11.alloc _) aN (h10.alloc _) (by decide);have x9:w9.cell? ⟨w.heap.size,np,none⟩=some (.slice A1 cur.length c1):=(b9.cell np).trans (by rw[<-h1];exact Py hs _);have y9:=b9.frozen np;clear hszA di aN bz b9 h1 h2 h4 h5 h6 h7 h8 h9 h10 h11 h12 h13 hA hp hlow q1 q2 q3;go_wp2_with fail
    go_region
    all_goals
     go_wp2;go_roundw
     case rel=>exact⟨k+1,np,by omega,by simp,rfl,Hnx.out⟩
     case measure=>simp[intOf];omega
   have q0:z=[47]\/z=[62]:=by
    by_cases hz:z=[47]
    ·exact .inl hz
    exact .inr (Classical.byContradiction fun h=>hA ⟨hz,h⟩)
   have xU:Below w.heap.size w (wr.alloc (.cells #[.int .i64 x,.int .i64 y,.string ⟨z.toArray⟩] dW)):=hlow.alloc (by omega) _;have Fg:np<3->wr.cell? ⟨w.heap.size+1,np,none⟩=some (.string ⟨(if np<2 then [47] else [62]:B).toArray⟩):=fun h=>by
    rw[h12.cell np];have:np=0\/np=1\/np=2:=by omega
    rcases this with rfl|rfl|rfl<;>rfl
   obtain⟨X0,m0,e0,X1,m1,e1',X2,m2,e2',X3,m3,e3',hcs⟩:=IW hs A1 cur.length c1 (by omega) h8.slices;have g0:wr.cell? ⟨w.heap.size,0,none⟩=some (.slice X0 m0 e0):=(h11.cell 0).trans (by rw[hcs];rfl);have g1:wr.cell? ⟨w.heap.size,1,none⟩=some (.slice X1 m1 e1'):=(h11.cell 1).trans (by rw[hcs];rfl);have g2:wr.cell? ⟨w.heap.size,2,none⟩=some (.slice X2 m2 e2'):=(h11.cell 2).trans (by rw[hcs];rfl);have g3:wr.cell? ⟨w.heap.size,3,none⟩=some (.slice X3 m3 e3'):=(h11.cell 3).trans (by rw[hcs];rfl);have gf:=h11.frozen;have rF:=hd0 hlow;have ac9:=hd0 xU;by_cases hm:(np<2/\z=[47])\/(np=2/\z=[62])
   ·have hnp:np<3:=by rcases hm with⟨h,_⟩|⟨h,_⟩<;>omega
    have OD:=Fg hnp;have adO:w.heap.size+1<wr.heap.size:=h12.lt;have HD:Hid (∀nd,aiL w ws (k+1) (np+1) ((wr.alloc (.cells #[.int .i64 x,.int .i64 y,.string ⟨z.toArray⟩] dW)).drewN nd)):=fun nd=>aiL.next h1 h2 h5 h6 h7 h8 h9 h10 h11 h12 h13 hp.out hm (below_drewN ((akl _ _).alloc (nr _) _) nd)
    have hn3:((np:Int)==3)=false:=by simp;omega
    rcases hm with⟨hm1,rfl⟩|⟨rfl,rfl⟩
    ·rw[if_pos hm1] at OD;clear hm1 Fg h1 h2 h4 h5 h6 h7 h8 h9 h10 h11 h12 h13 hA hp hlow xU q1 q2 q3 q0 hcs;go_wp2_with fail
     go_quiet (fail)
     go_wp2;go_roundw
     case rel=>exact⟨k+1,_,by omega,by simp,by simp,HD.out nq⟩
     case measure=>simp[intOf];omega
    rw[if_neg (by decide)] at OD;clear hnp Fg h1 h2 h4 h5 h6 h7 h8 h9 h10 h11 h12 h13 hA hp hlow xU q1 q2 q3 q0 hcs;go_wp2_with fail
    go_quiet (fail)
    go_wp2;go_roundw
    case rel=>exact⟨k+1,_,by omega,by simp,by simp,HD.out nq⟩
    case measure=>simp[intOf];omega
   have HN:=hd0 (Y3 h5 hp.out q0 hm);have HB4:Hid (∀nd,Bk ((wr.alloc (.cells #[.int .i64 x,.int .i64 y,.string ⟨z.toArray⟩] dW)).drewN nd) w.heap.size iO #[.slice X0 m0 e0,.slice X1 m1 e1',.slice X2 m2 e2',.slice X3 m3 e3']):=fun nd=>by rw[<-hcs];exact h11.alloc _
   have hcases:(np=3/\(z=[47]\/z=[62]))\/(np<2/\z=[62])\/(np=2/\z=[47]):=by
    by_cases h3e:np=3
    ·exact .inl ⟨h3e,q0⟩
    by_cases h2e:np=2
    ·rcases q0 with h|h
     ·exact .inr (.inr ⟨h2e,h⟩)
     exact absurd (.inr ⟨h2e,h⟩) hm
    rcases q0 with h|h
    ·exact absurd (.inl ⟨by omega,h⟩) hm
    exact .inr (.inl ⟨by omega,h⟩)
   have adO:w.heap.size+1<wr.heap.size:=h12.lt;have fin2:∀nd tmps,tmps.getD 2 undef= .pointer (some ⟨w.heap.size,0,none⟩)->tmps.getD 3 undef= .bool false->bodyPost Tryz.prog Tryz.f134 (Ou w ws) Exit.ret ⟨tmps,[]⟩ (((((((wr.alloc (.cells #[.int .i64 x,.int .i64 y,.string ⟨z.toArray⟩] dW)).drewN nd).setCell ⟨w.heap.size,0,none⟩ (.slice X0 m0 e0)).setCell ⟨w.heap.size,1,none⟩ (.slice X1 m1 e1')).setCell ⟨w.heap.size,2,none⟩ (.slice X2 m2 e2')).setCell ⟨w.heap.size,3,none⟩ (.slice X3 m3 e3'))):=fun nd tmps t2 t3=>by
    refine bodyPost_ret (wE (LJ (HB4.out nd)) t2 t3) rfl ⟨G7 (below_drewN ac9.out nd) (nr _) _ _ _ _,X0,m0,e0,X1,m1,e1',X2,m2,e2',X3,m3,e3',?_⟩;rw[HN.out]
   have FIN:=hd0 fin2;rcases hcases with⟨rfl,rfl|rfl⟩|⟨h1n,rfl⟩|⟨rfl,rfl⟩
   ·skip
    clear fin2 Fg h1 h2 h4 h5 h6 h7 h8 h9 h10 h11 h12 h13 hA hp hlow xU q1 q2 q3 q0 hcs hm;go_wp2_with fail
    go_quiet (fail)
    go_wp2
    (try simp only[Exit.inBlock,Exit.then])
    exact FIN.out nq _ rfl rfl
   ·skip
    clear fin2 Fg h1 h2 h4 h5 h6 h7 h8 h9 h10 h11 h12 h13 hA hp hlow xU q1 q2 q3 q0 hcs hm;go_wp2_with fail
    go_quiet (fail)
    go_wp2
    (try simp only[Exit.inBlock,Exit.then])
    exact FIN.out nq _ rfl rfl
   ·skip
    have hn3:((np:Int)==3)=false:=by simp;omega
    have OD:=Fg (by omega);rw[if_pos h1n] at OD;clear fin2 Fg h1 h2 h4 h5 h6 h7 h8 h9 h10 h11 h12 h13 hA hp hlow xU q1 q2 q3 q0 hcs hm;go_wp2_with fail
    go_quiet (fail)
    go_wp2
    (try simp only[Exit.inBlock,Exit.then])
    exact FIN.out nq _ rfl rfl
   skip
   have OD:=Fg (by omega);rw[if_neg (by decide)] at OD;clear fin2 Fg h1 h2 h4 h5 h6 h7 h8 h9 h10 h11 h12 h13 hA hp hlow xU q1 q2 q3 q0 hcs hm;go_wp2_with fail
   go_quiet (fail)
   go_wp2
   (try simp only[Exit.inBlock,Exit.then])
   exact FIN.out nq _ rfl rfl
  obtain rfl:k=n:=by omega
  have hend:=Y9 h5 (by rw[hwl.out];exact nr _);obtain⟨X0,m0,e0,X1,m1,e1',X2,m2,e2',X3,m3,e3',hcs⟩:=IW hs A1 cur.length c1 (by omega) h8.slices;have g0:wr.cell? ⟨w.heap.size,0,none⟩=some (.slice X0 m0 e0):=(h11.cell 0).trans (by rw[hcs];rfl);have g1:wr.cell? ⟨w.heap.size,1,none⟩=some (.slice X1 m1 e1'):=(h11.cell 1).trans (by rw[hcs];rfl);have g2:wr.cell? ⟨w.heap.size,2,none⟩=some (.slice X2 m2 e2'):=(h11.cell 2).trans (by rw[hcs];rfl);have g3:wr.cell? ⟨w.heap.size,3,none⟩=some (.slice X3 m3 e3'):=(h11.cell 3).trans (by rw[hcs];rfl);have gf:=h11.frozen;have hb4:Bk wr w.heap.size iO #[.slice X0 m0 e0,.slice X1 m1 e1',.slice X2 m2 e2',.slice X3 m3 e3']:=by rw[<-hcs];exact h11
  have HB4:=hd0 hb4;have rF:=hd0 hlow;have hrows:np=3->RowsIn dW wr [.slice X0 m0 e0,.slice X1 m1 e1',.slice X2 m2 e2',.slice X3 m3 e3'] (told++[cur]):=fun h3e=>by
   have:(dH hs (.slice A1 cur.length c1)).toList=hs++[.slice A1 cur.length c1]:=by simp[dH,h1,h3e]
   rw[hcs] at this;have this:[.slice X0 m0 e0,.slice X1 m1 e1',.slice X2 m2 e2',.slice X3 m3 e3']=hs++[.slice A1 cur.length c1]:=this;rw[this];exact(h8.keepW h13 h9 (by decide)).snoc (jf h10) (xu h10)
  have adg:=hd0 hrows;have abW:=hd0 hend;by_cases h3e:np=3
  ·have QO:Hid (ku ws=some (told++[cur])):=by show _=_;rw[abW.out,if_pos h3e]
   subst h3e;clear hrows hend hb4 hcs h1 h2 h4 h5 h6 h7 h8 h9 h10 h11 h12 h13 hlow;go_wp2_with fail
   (try simp only[Exit.inBlock,Exit.then])
   refine bodyPost_ret (wE (LJ HB4.out) rfl rfl) rfl ⟨G7 rF.out (nr _) _ _ _ _,X0,m0,e0,X1,m1,e1',X2,m2,e2',X3,m3,e3',?_⟩;rw[QO.out];exact⟨rfl,(adg.out trivial).keepW HB4.out (Uz _ _ _ _ _ _) (by decide)⟩
  have hn3:((np:Int)==3)=false:=by simp;omega
  have QO:Hid (ku ws=none):=by show _=_;rw[abW.out,if_neg h3e]
  clear hrows hend hb4 hcs h1 h2 h4 h5 h6 h7 h8 h9 h10 h11 h12 h13 hlow h3e;go_wp2_with fail
  (try simp only[Exit.inBlock,Exit.then])
  refine bodyPost_ret (wE (LJ HB4.out) rfl rfl) rfl ⟨G7 rF.out (nr _) _ _ _ _,X0,m0,e0,X1,m1,e1',X2,m2,e2',X3,m3,e3',?_⟩;rw[QO.out];rfl
end
section
open Go.RowKit Go.Sort
theorem BJ (l:List Int):aW l=l.map (Value.int .i64):=by
 induction l with
 |nil=>rfl
 |cons x r ih=>rw[Xe,ih];rfl
theorem Y1 {w:World}{base g n c m:Nat}{e:TypeId}{xs ys:List Value}(h:w.ownsRow base e 1 (.slice (some ⟨g,0,none⟩) n c) n (xs++ys))(hm:xs.length=m)(hle:m<=n):w.ownsRow base e 1 (.slice (some ⟨g,0,none⟩) m c) m xs:=by
 rcases h.2 with⟨h0,_⟩|⟨g',cap',cur,hv,hg,hh,hn,hcap,hs,htk⟩
 ·cases h0
 cases hv;refine⟨by omega,.inr ⟨g,c,cur,rfl,hg,hh,by omega,hcap,hs,?_⟩⟩;have h9:(cur.toList.take (n*1)).take m=(xs++ys).take m:=by rw[htk]
 rw[List.take_take,Nat.min_eq_left (by omega),List.take_append_of_le_length (by omega),akE (l:=xs) (by omega)] at h9;rw[Nat.mul_one];exact h9
theorem PT (w:World)(A:Option Addr)(n c:Nat)(l:List Int){Bd:Nat}(hr:Rd w Bd A n 1 (aW l))(hn:n<=1000000000):
  Calls Tryz.prog 173 #[.slice A n c] w fun e w'=>∃A' c',e= .returned (.slice A' (setOf l).length c')/\w'.ownsRow w.heap.size 3 1 (.slice A' (setOf l).length c') (setOf l).length (aW (setOf l))/\Below w.heap.size w w':=by
 have hl:l.length=n:=by have:=hr.1;simpa [BJ] using this
 rcases Nat.eq_zero_or_pos n with h0|h0
 ·subst h0
  obtain rfl:l=[]:=List.eq_nil_of_length_eq_zero hl;have hz:Hid (setOf []=[]):=rfl;have hcl:Hid (Calls Tryz.prog 143 #[.slice A 0 c] w fun e w'=>∃A' c',e= .returned (.slice A' 0 c')/\w'.ownsRow w.heap.size 3 1 (.slice A' 0 c') 0 []/\Below w.heap.size w w'):=by
   show Calls _ _ _ _ _;cases A with
   |none=>refine(Tryz.slices_Clone_int_nil 0 c w).mono ?_;rintro e w' ⟨rfl,rfl⟩;exact⟨none,0,rfl,World.ownsRow_nil _ _ _ _,akl _ _⟩
   |some a=>refine(Tryz.slices_Clone_int_zero a c w).mono ?_;rintro e w' ⟨v,rfl,ho,-,hb⟩;obtain⟨A',c',rfl⟩:=gX ho;exact⟨A',c',rfl,ho,hb⟩
  clear hr hn hl;go_enter Tryz.func173,Tryz.ntmps173
  go_wp2_with fail
  refine hcl.out.mono ?_;rintro e w1 ⟨A',c',rfl,ho,hb⟩;go_wp2_with fail
  refine(Tryz.slices_Sort_int_none A' c' w1).mono ?_;rintro e w2 ⟨rfl,rfl⟩;go_wp2_with fail
  refine(Tryz.slices_Compact_int_empty A' c' _).mono ?_;rintro e w3 ⟨rfl,rfl⟩;go_wp2;go_ret
  rw[hz.out];exact⟨A',c',rfl,ho,hb⟩
 obtain⟨b,o,rfl,hbk,acv⟩:=hr.2 h0;have hcl:=hd0 (Tryz.slices_Clone_int b o n c l w (by omega) (by omega) (fun j hj=>by
  refine acv j _ ?_;rw[BJ,akO,ako hj];simp[List.getD,ako hj]))
 subst hl;rw[akr] at hcl;have hn':=hn;clear hr hbk acv;go_enter Tryz.func173,Tryz.ntmps173
 go_wp2_with fail
 refine hcl.out.mono ?_;rintro e w1 ⟨v,rfl,ho,hne,hb⟩;obtain⟨g,cap,cur,rfl,hg,hh,hnc,hcap,hs,htk⟩:∃g cap cur,v= .slice (some ⟨g,0,none⟩) l.length cap/\w.heap.size<=g/\w1.heap[g]? =some (.cells cur 3 (0,0))/\l.length<=cap/\cap<=maxLen/\cur.size=cap*1/\cur.toList.take l.length=l.map (Value.int .i64):=by
  rcases ho.2 with⟨_,h⟩|⟨g,cap,cur,hv,hg,hh,hnc,hcap,hs,htk⟩
  ·omega
  exact⟨g,cap,cur,hv,hg,hh,hnc,hcap,hs,by rw[Nat.mul_one] at htk;exact htk⟩
 have hgl:g<w1.heap.size:=(akp.1 hh).1;have hH:=holds_of_blockI hh htk;have hsort:=hd0 (Tryz.slices_Sort_int g 0 cap l w1 hH hgl (by omega));clear hne ho;go_wp2_with fail
 refine hsort.out.mono ?_;rintro e w2 ⟨rfl,q,os,hw2⟩;have hml:(l.mergeSort fun x y=>decide (x<=y)).length=l.length:=List.length_mergeSort _;have ho2:=ownsRow_sortedI (base:=w.heap.size) (n:=q) (os:=os) hml hg hh hnc hcap hs;have hg2:=grownBy_sortedI (w:=w1) (g:=g) (n:=q) (os:=os) (l.mergeSort fun x y=>decide (x<=y)).toArray;rw[<-hw2] at ho2 hg2;have hcs:=Jf l;generalize (l.mergeSort fun x y=>decide (x<=y))=ms at*
 obtain⟨DT,hh2,hs2,ael⟩:∃DT,w2.heap[g]? =some (.cells DT 3 (0,0))/\DT.size=cap*1/\DT.toList.take ms.length=ms.map (Value.int .i64):=by
  rcases ho2.2 with⟨h,_⟩|⟨g',cap',cur',hv,-,hh',-,-,hs',aai⟩
  ·cases h
  cases hv;exact⟨cur',hh',hs',by rw[Nat.mul_one] at aai;rw[hml];exact aai⟩
 have hcomp:=Tryz.slices_Compact_int g 0 cap ms w2 (holds_of_blockI hh2 ael) (by omega) (by omega);rw[hcs,hml] at hcomp;have acP:=hd0 hcomp;have hle:=IL l;clear hsort hcl hcomp hw2 hh htk hH;go_wp2_with fail
 refine acP.out.mono ?_;rintro e w3 ⟨rfl,q3,hw3⟩;have hl3:(setOf l++List.replicate (l.length - (setOf l).length) 0).length=l.length:=by simp;omega
 have ho3:=ownsRow_sortedI (base:=w.heap.size) (n:=q3) (os:= #[]) hl3 hg hh2 hnc hcap hs2;have hg3:=grownBy_sortedI (w:=w2) (g:=g) (n:=q3) (os:= #[]) (setOf l++List.replicate (l.length - (setOf l).length) 0).toArray;rw[grow_empty,<-hw3] at ho3 hg3;rw[akY,<-BJ] at ho3;have Ho:=hd0 (Y1 (m:=(setOf l).length) ho3 (by simp[BJ]) hle);have Hb:=hd0 ((hb.grown hg2 hb.size (fun k e=>by cases e;exact hg)).grown hg3 (nt hb.size hg2.size) (fun k e=>by cases e;exact hg));clear ho3 hg3 hw3 ho2 hg2;go_wp2;go_ret
 exact⟨_,_,rfl,Ho.out,Hb.out⟩
end
section
open Go.RowKit
def aI (gl:Gl)(cls:List (B×List Int))(er:Int)(l:List (List B)):Int×List (List Int):=l.foldl (fun q x=>((aT gl cls q.1 [] x).1,q.2++[(aT gl cls q.1 [] x).2])) (er,[])
theorem Ld (gl:Gl)(cls:List (B×List Int))(er:Int)(l:List (List B))(x:List B):aI gl cls er (l++[x])=((aT gl cls (aI gl cls er l).1 [] x).1,(aI gl cls er l).2++[(aT gl cls (aI gl cls er l).1 [] x).2]):=by unfold aI;rw[ak8];rfl
theorem wB (gl:Gl)(cls:List (B×List Int))(er:Int)(l:List (List B)):(aI gl cls er l).2.length=l.length:=by
 suffices h:∀q:Int×List (List Int),(l.foldl (fun q x=>((aT gl cls q.1 [] x).1,q.2++[(aT gl cls q.1 [] x).2])) q).2.length=q.2.length+l.length by have:=h (er,[]);simpa [aI] using this
 induction l with
 |nil=>intro q;rfl
 |cons x r ih=>intro q;rw[akN,ih];simp;omega
def IB (base:Nat)(w:World):Bs:=fun g=>base<=g/\∃cur,Bk w g 3 cur
theorem IB.keep {base:Nat}{w w':World}{row:Option Nat}(hg:w.grownBy w' row)(hr:∀g,row=some g->∃t cur,Bk w g t cur/\t≠3):Same (IB base w) w w'/\∀g,IB base w g->IB base w' g:=by
 have h:Same (IB base w) w w':=fun b ⟨_,cur,hb⟩=>hg.block b hb.lt fun e=>by
  obtain⟨t,cur',h1,h2⟩:=hr b e.symm;exact h2 (dR h1 hb).1
 exact⟨h,fun g hg'=>⟨hg'.1,by obtain⟨cur,hb⟩:=hg'.2;exact⟨cur,hb.keep (h g hg')⟩⟩⟩
theorem Fl.ib {base:Nat}{w w':World}{row:Option Nat}{cs:List Value}{xs:List (List Int)}(h:Fl ahV 1 w (IB base w) cs xs)(hg:w.grownBy w' row)(hr:∀g,row=some g->∃t cur,Bk w g t cur/\t≠3):Fl ahV 1 w' (IB base w') cs xs:=(h.keep ahV.ok (IB.keep hg hr).1).mono ahV.ok (IB.keep hg hr).2
theorem Pn {w:World}{base b2:Nat}{l:List Int}{A:Option Addr}{c:Nat}(ho:w.ownsRow b2 3 1 (.slice A l.length c) l.length (aW l))(hI:∀x∈l,I64 x)(hb:base<=b2):ahV w (IB base w) [.slice A l.length c] l:=by refine⟨A,c,rfl,Sl.aiC ho (zh w (IB base w) l hI) (fun g hg=> ?_) (by decide)⟩;obtain⟨cur,hk⟩:=aV ho hg;exact⟨nt hb (ho.lt g hg).1,cur,hk⟩
def ai0 (w:World)(rb p:Nat)(er:Int)(n:Nat)(rows:List (List Int))(v:Value)(wr:World):Prop:=∃A c hs,v= .slice A n c/\wr.ownsRow w.heap.size 22 1 (.slice A n c) n hs/\Fl ahV 1 wr (IB w.heap.size wr) hs rows/\Rdr wr rb p er/\w.grownBy wr (some rb)
theorem ai0.next {w wr w1 w2:World}{rb p:Nat}{er er':Int}{n:Nat}{rows:List (List Int)}{l:List Int}{A A5 A6:Option Addr}{c c5 c6:Nat}{hs:List Value}(h1:wr.ownsRow w.heap.size 22 1 (.slice A n c) n hs)(h2:Fl ahV 1 wr (IB w.heap.size wr) hs rows)(h3:Rdr wr rb p er)(h4:w.grownBy wr (some rb))
  (k1:w1.ownsRow wr.heap.size 3 1 (.slice A5 l.length c5) l.length (aW l)) (hI:∀x∈l,I64 x) (k2:Rdr w1 rb p er') (k3:wr.grownBy w1 (some rb)) (m1:w2.ownsRow w.heap.size 22 1 (.slice A6 (n+1) c6) (n+1) (hs++[.slice A5 l.length c5])) (m2:w1.grownBy w2 (Value.slice A n c).ownBlock):
  ai0 w rb p er' (n+1) (rows++[l]) (.slice A6 (n+1) c6) w2:=by
 have o1:=h1.kept k3 (bQ h1 h3 (by decide));have hne:∀g,(Value.slice A n c).ownBlock=some g->∃t cur,Bk w1 g t cur/\t≠3:=fun g e=>by
  obtain⟨cur,hk⟩:=aV o1 e;exact⟨_,cur,hk,by decide⟩
 have f1:=(h2.ib k3 (fun g e=>by cases e;exact⟨_,_,h3,by decide⟩)).ib m2 hne;have k1':=k1.kept m2 (own_ne k1 o1 (by decide));refine⟨A6,c6,_,rfl,m1,f1.snoc (R:=ahV) (Pn k1' hI h4.size) rfl,Bk.grown k2 m2 o1 (by decide),IC (bZ h4 k3) m2 (fun g e=>(h1.lt g e).1)⟩
theorem ZH {w wr:World}{rb p:Nat}{er:Int}{A:Option Addr}{n k:Nat}{hs:List Value}{rows:List (List P3)}(hr:RdT w 119 A n 1 hs)(hin:RowsIn dW w hs rows)(hR:Rdr w rb p er)(hg:w.grownBy wr (some rb))(hk:k<n):
  ∃b o r Ar kr cr,A=some ⟨b,o,none⟩/\Hid (rows[k]? =some r)/\b<wr.heap.size/\wr.cell? ⟨b,o+k,none⟩=some (.slice Ar kr cr)/\RdT wr dW Ar kr 3 (dA r)/\kr=r.length:=by
 obtain⟨b,o,cur,e,hb,hc⟩:=hr.2 (by omega);have hl:hs.length=n:=by have:=hr.1;omega
 have hk2:k<rows.length:=by rw[<-hin.1,hl];exact hk
 obtain⟨Ar,kr,cr,g1,g2,-⟩:=hin.2 k _ (ako hk2);have hb2:Bk wr b 119 cur:=Bk.kept2 hg hb (fun e'=>by
  subst e';have:=(dR hb hR).1
  revert this
  decide)
 exact⟨b,o,rows[k],Ar,kr,cr,e,ako hk2,hb2.lt,(hb2.cell _).trans (hc k _ g1),G9 g2 hR hg,g2.rd.aiE.symm⟩
def aJ (rows:List (List P3)):List (List B):=rows.map af
theorem QD {rows:List (List P3)}{k:Nat}{r:List P3}(h:rows[k]? =some r):(aJ rows).take (k+1)=(aJ rows).take k++[af r]:=by unfold aJ;rw[ak2,akO,h];rfl
theorem PAt.reader {w w':World}{p gm cm rb:Nat}{err:Int}{gl:Gl}{cls:List (B×List Int)}(h:PAt w p gm cm gl cls)(hr:Rdr w rb p err)(hg:w.grownBy w' (some rb)):PAt w' p gm cm gl cls:=h.grown hr hg
theorem rows_ok (w:World)(rb p gm cm:Nat)(gl:Gl)(cls:List (B×List Int))(err:Int)(A:Option Addr)(n c:Nat)(rows:List (List P3))(hs:List Value)(hR:Rdr w rb p err)(hP:PAt w p gm cm gl cls)(hr:RdT w 119 A n 1 hs)(hin:RowsIn dW w hs rows)(hn:n<=1000000000)
  (hl:∀r∈rows,r.length<=1000000000) (hI:∀er l,∀x∈(aT gl cls er [] l).2,I64 x):
  Calls Tryz.prog 136 #[.pointer (some ⟨rb,0,none⟩),.slice A n c] w fun e w'=>∃v,e= .returned v/\ai0 w rb p (aI gl cls err (aJ rows)).1 n (aI gl cls err (aJ rows)).2 v w':=by
 have hlen:hs.length=n:=by have:=hr.1;omega
 have hrl:=hd0 (show rows.length=n by rw[<-hin.1];exact hlen);have HR:=hd0 hR;have HP:=hd0 hP;have HW:=hd0 hr;have Ud:=hd0 hin;have HL:=hd0 hl;have HI:=hd0 hI;clear hR hP hr hin hl hI hlen;go_enter Tryz.func136,Tryz.ntmps136
 go_wp2;go_loopw [5,10] (fun v i wr=>∃k:Nat,k<=n/\i= .int .i64 k/\ai0 w rb p (aI gl cls err ((aJ rows).take k)).1 k (aI gl cls err ((aJ rows).take k)).2 v wr) (fun _ i _=>n - (intOf i).toNat)
 case atStart=>exact⟨0,nz _,rfl,none,0,[],rfl,World.ownsRow_nil _ _ _ _,Fl.nil,HR.out,World.grownBy.refl _ _⟩
 case round=>
  obtain⟨k,hk,rfl,A4,c4,hs4,rfl,ho,hf,hr,hg⟩:=hrel;by_cases hlt:k<n
  ·obtain⟨b,o,r,Ar,kr,cr,rfl,hp,hbw,q1,hrd,hkr⟩:=ZH HW.out Ud.out HR.out hg hlt;have Wx:kr<=1000000000:=by rw[hkr];exact HL.out r (akt hp.out)
   have hsn:=QD hp.out;have Ee:=hd0 (Ld gl cls err ((aJ rows).take k) (af r));rw[<-hsn] at Ee;have hr0:=hd0 hr;have hf0:=hd0 hf;have HG:=hd0 hg;have OB:=HI.out (aI gl cls err ((aJ rows).take k)).1 (af r);have hcall:=hd0 (Ut wr rb p gm cm gl cls (aI gl cls err ((aJ rows).take k)).1 Ar kr cr r hr (HP.out.reader HR.out hg) hrd Wx);have hsz:=hg.size;generalize (aI gl cls err ((aJ rows).take k)).1=er at*
   generalize (aI gl cls err ((aJ rows).take k)).2=acc at*
   generalize hq:aT gl cls er [] (af r)=qq at*
   obtain⟨yO,res⟩:=qq;have aes:Hid (aI gl cls err ((aJ rows).take (k+1))=(yO,acc++[res])):=by show _=_;rw[Ee.out]
   have JG:=hd0 OB;clear hp hsn Ee hr hrd hkr hf hg OB hq;go_wp2_with (first
    |(go_at_call 128;refine hcall.out.mono ?_;rintro e w1 ⟨v,rfl,A5,c5,rfl,vH,nC,hg5⟩;have z1:=hg5.size)
    |(at_builtin;refine lq Yd rfl (.tmp 14) (.tmp 18) rfl w1 _ rfl w.heap.size k c4 A4 hs4 #[.slice A5 res.length c5] rfl rfl rfl (ho.kept hg5 (bQ ho hr0.out (by decide))) (by simp[Value.oneCell']) (by omega) (by omega) ?_;intro A6 c6 w2 ho2 hg3 _))
   go_roundw
   case rel=>exact⟨k+1,by omega,by simp,by rw[aes.out];exact ai0.next ho hf0.out hr0.out HG.out vH JG.out nC hg5 ho2 hg3⟩
   case measure=>simp[intOf];omega
  obtain rfl:k=n:=by omega
  have ht:Hid ((aJ rows).take k=aJ rows):=by show _=_;exact akE (by rw[aJ,aks,hrl.out];exact nr _)
  rw[ht.out] at hf hr;go_wp2;go_ret
  exact⟨_,rfl,A4,c4,hs4,rfl,ho,hf,hr,hg⟩
def aiY (w:World)(n:Nat)(rows:List (List Int))(v:Value)(wr:World):Prop:=∃A c hs,v= .slice A n c/\wr.ownsRow w.heap.size 22 1 (.slice A n c) n hs/\Fl ahV 1 wr (IB w.heap.size wr) hs rows/\Below w.heap.size w wr
theorem aiY.next {w wr w1 w2:World}{n:Nat}{rows:List (List Int)}{l:List Int}{A A5 A6:Option Addr}{c c5 c6:Nat}{hs:List Value}(h1:wr.ownsRow w.heap.size 22 1 (.slice A n c) n hs)(h2:Fl ahV 1 wr (IB w.heap.size wr) hs rows)(h4:Below w.heap.size w wr)
  (k1:w1.ownsRow wr.heap.size 3 1 (.slice A5 l.length c5) l.length (aW l)) (hI:∀x∈l,I64 x) (k3:Below wr.heap.size wr w1) (m1:w2.ownsRow w.heap.size 22 1 (.slice A6 (n+1) c6) (n+1) (hs++[.slice A5 l.length c5])) (m2:w1.grownBy w2 (Value.slice A n c).ownBlock):
  aiY w (n+1) (rows++[l]) (.slice A6 (n+1) c6) w2:=by
 have o1:=own_below h1 k3;have hne:∀g,(Value.slice A n c).ownBlock=some g->∃t cur,Bk w1 g t cur/\t≠3:=fun g e=>by
  obtain⟨cur,hk⟩:=aV o1 e;exact⟨_,cur,hk,by decide⟩
 have f1:=(h2.ib (aC k3 none) (fun g e=>by cases e)).ib m2 hne;have k1':=k1.kept m2 (own_ne k1 o1 (by decide));exact⟨A6,c6,_,rfl,m1,f1.snoc (R:=ahV) (Pn k1' hI h4.size) rfl,(h4.trans (k3.mono h4.size)).grown m2 (nt h4.size k3.size) (fun g e=>(h1.lt g e).1)⟩
theorem OA {w:World}{S:Bs}{hs:List Value}{rows:List (List Int)}(h:Fl ahV 1 w S hs rows){k:Nat}{r:List Int}(hk:rows[k]? =some r):∃A c,hs[k]? =some (.slice A r.length c)/\Sl ahT 1 w S A r:=by obtain⟨cs,⟨A,c,rfl,h1⟩,-,h3⟩:=h.2 k r hk;have:=h3 0 _ rfl;rw[Nat.mul_one,Nat.add_zero] at this;exact⟨A,c,this,h1⟩
theorem SK (w:World)(A:Option Addr)(n c:Nat)(rows:List (List Int))(hs:List Value){S:Bs}(hr:RdT w 22 A n 1 hs)(hf:Fl ahV 1 w S hs rows)(hS:∀b,S b->b<w.heap.size)(hn:n<=1000000000)(hl:∀r∈rows,r.length<=1000000000)(hI:∀r∈rows,∀x∈r,I64 x):
  Calls Tryz.prog 137 #[.slice A n c] w fun e w'=>∃v,e= .returned v/\aiY w n (rows.map setOf) v w':=by
 have hrl:rows.length=n:=by have h1:=hr.1;have h2:=hf.1;omega
 have HW:=hd0 hr;have HF:=hd0 hf;have HS:=hd0 hS;have HL:=hd0 hl;have HI:=hd0 hI;have yR:=hd0 hrl;clear hr hf hS hl hI hrl;go_enter Tryz.func137,Tryz.ntmps137
 go_wp2;go_loopw [3,8] (fun v i wr=>∃k:Nat,k<=n/\i= .int .i64 k/\aiY w k ((rows.map setOf).take k) v wr) (fun _ i _=>n - (intOf i).toNat)
 case atStart=>exact⟨0,nz _,rfl,none,0,[],rfl,World.ownsRow_nil _ _ _ _,Fl.nil,akl _ _⟩
 case round=>
  obtain⟨k,hk,rfl,A4,c4,hs4,rfl,ho,hf4,hb4⟩:=hrel;by_cases hlt:k<n
  ·obtain⟨r,hrk⟩:∃r,rows[k]? =some r:=⟨_,ako (by rw[yR.out];exact hlt)⟩
   obtain⟨Ar,cr,hhk,hsl⟩:=OA HF.out hrk;obtain⟨b,o,cur,rfl,hb,hcc⟩:=HW.out.2 (by omega);have q1:wr.cell? ⟨b,o+k,none⟩=some (.slice Ar r.length cr):=((aj hb4).1 _ _ hb.lt).trans ((hb.cell _).trans (hcc k _ hhk));have hbw:b<wr.heap.size:=aku hb.lt hb4.size;have hrm:=akt hrk;have Wx:=HL.out r hrm;have hrd:Rd wr w.heap.size Ar r.length 1 (aW r):=(Qm hsl HS.out).below hb4 (nr _);have hcall:=hd0 (PT wr Ar r.length cr r hrd Wx);have hsn:Hid ((rows.map setOf).take (k+1)=(rows.map setOf).take k++[setOf r]):=by show _=_;rw[ak2,akO,hrk];rfl
   have JG:Hid (∀x∈setOf r,I64 x):=fun x hx=>HI.out r hrm x ((AC x r).1 hx)
   have hsz:=hb4.size;have Hf4:=hd0 hf4;have Hb4:=hd0 hb4;generalize (rows.map setOf).take k=acc at*
   clear hrk hhk hsl hb hcc hrm hrd hf4 hb4;go_wp2_with (first
    |(go_at_call 173;refine hcall.out.mono ?_;rintro e w1 ⟨A5,c5,rfl,vH,hb5⟩;have z1:=hb5.size)
    |(at_builtin;refine lq Yd rfl (.tmp 12) (.tmp 15) rfl w1 _ rfl w.heap.size k c4 A4 hs4 #[.slice A5 (setOf r).length c5] rfl rfl rfl (own_below ho hb5) (by simp[Value.oneCell']) (by omega) (by omega) ?_;intro A6 c6 w2 ho2 hg3 _))
   go_roundw
   case rel=>exact⟨k+1,by omega,by simp,by rw[hsn.out];exact aiY.next ho Hf4.out Hb4.out vH JG.out hb5 ho2 hg3⟩
   case measure=>simp[intOf];omega
  obtain rfl:k=n:=by omega
  have ht:Hid ((rows.map setOf).take k=rows.map setOf):=by show _=_;exact akE (by rw[aks,yR.out];exact nr _)
  rw[ht.out] at hf4;go_wp2;go_ret
  exact⟨_,rfl,A4,c4,hs4,rfl,ho,hf4,hb4⟩
theorem VH (n:Nat):(n==1)=((n:Int)==1):=by rw[Bool.eq_iff_iff];simp;omega
theorem VZ (n:Nat):(n==0)=((n:Int)==0):=by rw[Bool.eq_iff_iff];simp
theorem Vs (w:World)(kind:Int)(A:Option Addr)(n c:Nat)(ws:List P3)(hr:RdT w dW A n 3 (dA ws))(hl:∀x∈ws,x.2.2.length<=800000000)(hn:n<=1000000000):
  Calls Tryz.prog 135 #[.int .i64 kind,.slice A n c] w fun e w'=>e= .returned (.bool (dY kind (af ws)))/\Below w.heap.size w w':=by
 have hlen:(af ws).length=n:=by rw[iF];exact hr.rd.aiE
 have hcall:=hd0 (Np w A n c ws hr hl hn);have hall:Hid (ws.all (fun x=>BL x.2.2)=wH (af ws)):=by show _=_;rw[yF];rfl
 by_cases h4:kind=4
 ·have HR:Hid (dY kind (af ws)=wH (af ws)):=by show _=_;unfold dY;rw[if_pos h4]
  subst h4;clear hr hl hn hlen;go_enter Tryz.func135,Tryz.ntmps135
  go_wp2_with fail
  refine hcall.out.mono ?_;rintro e w1 ⟨rfl,hb⟩;go_wp2;go_ret
  rw[HR.out,hall.out];exact⟨rfl,hb⟩
 by_cases h6:kind=6
 ·have HR:Hid (dY kind (af ws)=((n:Int)==1)):=by show _=_;unfold dY;rw[if_neg h4,if_pos h6,hlen,VH]
  subst h6;clear hr hl hn hlen hcall h4;go_enter Tryz.func135,Tryz.ntmps135
  go_wp2;go_ret
  rw[HR.out];exact⟨rfl,akl _ _⟩
 by_cases h7:kind=7\/kind=8
 ·have HR:Hid (dY kind (af ws)=((n:Int)==0)):=by show _=_;unfold dY;rw[if_neg h4,if_neg h6,if_pos h7,hlen,VZ]
  clear hr hl hn hlen hcall h4 h6;rcases h7 with rfl|rfl
  all_goals
   go_enter Tryz.func135,Tryz.ntmps135
   go_wp2;go_ret
   rw[HR.out];exact⟨rfl,akl _ _⟩
 have HR:Hid (dY kind (af ws)=true):=by show _=_;unfold dY;rw[if_neg h4,if_neg h6,if_neg h7]
 have e4:(kind==4)=false:=by simpa using h4
 have e6:(kind==6)=false:=by simpa using h6
 have e7:(kind==7)=false:=by simp;omega
 have e8:(kind==8)=false:=by simp;omega
 clear hr hl hn hlen hcall h4 h6 h7;go_enter Tryz.func135,Tryz.ntmps135
 go_wp2;go_ret
 rw[HR.out];exact⟨rfl,akl _ _⟩
end
end Go.Proofs.YtkijckccfookeaaGreatDoor
