/- parse: region. -/
import Derived.Test.YtkijckccfookeaaGreatDoorV23
set_option linter.unusedVariables false
set_option linter.unusedSimpArgs false
set_option maxRecDepth 100000
set_option maxHeartbeats 32000000
namespace Go.Proofs.YtkijckccfookeaaGreatDoor
section
open Go.RowKit
attribute [-go_sem] Builtin.append_
def xO (l:List aiH):List Value:=l.flatMap fun t=>[.int .i64 t.start,.int .i64 t.peak,.int .i64 t.stop]
theorem TN (a b:List aiH):xO (a++b)=xO a++xO b:=by simp[xO]
theorem zZ:∀(a b:List Int),a.length % 3=0->bT (a++b)=bT a++bT b
 |[],b,_=>rfl
 |[x],b,h=>by simp at h
 |[x,y],b,h=>by simp at h
 |x::y::z::r,b,h=>by
  have h2:r.length % 3=0:=by simp only[aF] at h;omega
  show⟨x,y,z⟩::bT (r++b)=⟨x,y,z⟩::(bT r++bT b)
  rw[zZ r b h2]
theorem Hl:∀(a:List Int),(∀x∈a,I64 x)->∀t∈bT a,I64 t.start/\I64 t.peak/\I64 t.stop
 |[],_,t,ht=>by simp[bT] at ht
 |[x],_,t,ht=>by simp[bT] at ht
 |[x,y],_,t,ht=>by simp[bT] at ht
 |x::y::z::r,h,t,ht=>by
  have ht:t∈⟨x,y,z⟩::bT r:=ht;rcases akx.1 ht with rfl|ht
  ·exact⟨h x (by simp),h y (by simp),h z (by simp)⟩
  exact Hl r (fun u hu=>h u (by simp[hu])) t ht
theorem H9:∀(a:List Int),(bT a).length<=a.length
 |[]=>nr _
 |[x]=>by simp[bT]
 |[x,y]=>by simp[bT]
 |x::y::z::r=>by
  show(⟨x,y,z⟩::bT r:List aiH).length<=_;have:=H9 r;simp only[aF];omega
theorem YZ (w:World)(S:Bs)(l:List aiH)(h:∀t∈l,I64 t.start/\I64 t.peak/\I64 t.stop):Fl aiI 3 w S (xO l) l:=by
 induction l with
 |nil=>exact Fl.nil
 |cons x r ih=>obtain⟨h1,h2,h3⟩:=h x (by simp);exact(Fl.one (R:=aiI) (cs:=[.int .i64 x.start,.int .i64 x.peak,.int .i64 x.stop]) ⟨rfl,h1,h2,h3⟩ rfl).append (ih (fun y hy=>h y (by simp[hy])))
theorem three {l:List Int}(h:l.length % 3=0)(h0:l≠[]):∃x y z r,l=x::y::z::r:=by
 match l,h,h0 with
 |[],_,h0=>exact absurd rfl h0
 |[x],h,_=>simp at h
 |[x,y],h,_=>simp at h
 |x::y::z::r,_,_=>exact⟨x,y,z,r,rfl⟩
theorem RdT.apart {w w2:World}{t e:TypeId}{A:Option Addr}{n size base s2 n2 c2:Nat}{A2:Option Addr}{cs xs:List Value}(h:RdT w t A n size cs)(ho:w.ownsRow base e s2 (.slice A2 n2 c2) n2 xs)(hg:w.grownBy w2 (Value.slice A2 n2 c2).ownBlock)(hne:t≠e):RdT w2 t A n size cs:=
 ⟨h.1,fun h0=>by
  obtain⟨b,o,cur,e1,hb,hr⟩:=h.2 h0;exact⟨b,o,cur,e1,Bk.grown hb hg ho hne,hr⟩⟩
theorem RdT.ajl {w:World}{t e:TypeId}{A:Option Addr}{n size g:Nat}{cs:List Value}{DT:Array Value}(h:RdT w t A n size cs)(hb:Bk w g e DT)(hne:t≠e)(i:Nat)(u:Value):RdT (w.setCell ⟨g,i,none⟩ u) t A n size cs:=
 ⟨h.1,fun h0=>by
  obtain⟨b,o,cur,e1,hb1,hr⟩:=h.2 h0;refine⟨b,o,cur,e1,Bk.far hb1 (fun e'=> ?_) u,hr⟩;subst e';exact hne (dR hb1 hb).1⟩
abbrev zn:TypeId:=104
def ai7 (w:World)(rb p D:Nat)(er:Int)(nums:List Int)(v:Value)(wr:World):Prop:=
 ∃(dn rs:List Int) (A:Option Addr) (m c:Nat) (At:Option Addr) (kt ct:Nat),v= .slice A m c/\nums=dn++rs/\dn.length % 3=0/\rs.length % 3=0/\m=rs.length/\m<=c/\RdT wr 3 A m 1 (aW rs)/\
  wr.ownsRow w.heap.size 101 3 (.slice At kt ct) kt (xO (bT dn))/\kt=(bT dn).length/\Bk wr D zn #[.slice At kt ct]/\Rdr wr rb p er/\Below w.heap.size w wr
theorem Xe (x:Int)(l:List Int):aW (x::l)= .int .i64 x::aW l:=rfl
theorem ai7.open {w wr:World}{rb p D:Nat}{er:Int}{nums:List Int}{v:Value}(h:ai7 w rb p D er nums v wr)(hD:w.heap.size<=D):∃A m c,v= .slice A m c/\((m=0/\∃At kt ct,wr.ownsRow w.heap.size 101 3 (.slice At kt ct) kt (xO (bT nums))/\kt=(bT nums).length/\Bk wr D zn #[.slice At kt ct]/\Rdr wr rb p er/\Below w.heap.size w wr)\/
  ∃b o x y z At kt ct xs,A=some ⟨b,o,none⟩/\b<wr.heap.size/\wr.cell? ⟨b,o,none⟩=some (.int .i64 x)/\wr.cell? ⟨b,o+1,none⟩=some (.int .i64 y)/\wr.cell? ⟨b,o+2,none⟩=some (.int .i64 z)/\3<=m/\wr.ownsRow w.heap.size 101 3 (.slice At kt ct) kt xs/\kt<=nums.length/\Bk wr D zn #[.slice At kt ct]/\Below w.heap.size w wr/\
   ∀A5 c5 w9,w9.ownsRow w.heap.size 101 3 (.slice A5 (kt+1) c5) (kt+1) (xs++[.int .i64 x,.int .i64 y,.int .i64 z])->wr.grownBy w9 (Value.slice At kt ct).ownBlock->ai7 w rb p D er nums (.slice (if c=3 then A else A.map (·.add (3*1))) (m - 3) (c - 3)) (w9.setCell ⟨D,0,none⟩ (.slice A5 (kt+1) c5))):=by
 obtain⟨dn,rs,A,m,c,At,kt,ct,rfl,h1,h2,h3,h4,h5,h6,h7,h8,h9,h10,h11⟩:=h;refine⟨A,m,c,rfl,?_⟩;by_cases hr:rs=[]
 ·subst hr;rw[akR] at h1;subst h1;exact .inl ⟨h4,At,kt,ct,h7,h8,h9,h10,h11⟩
 obtain⟨x,y,z,r,rfl⟩:=three h3 hr;simp only[aF] at h4 h3;obtain⟨b,o,cur,e1,hb,hc⟩:=h6.2 (by omega);refine .inr ⟨b,o,x,y,z,At,kt,ct,_,e1,hb.lt,(hb.cell o).trans (hc 0 _ rfl),(hb.cell _).trans (hc 1 _ rfl),(hb.cell _).trans (hc 2 _ rfl),by omega,h7,?_,h9,h11,?_⟩
 ·rw[h8,h1,la];have:=H9 dn;omega
 intro A5 c5 w9 ho hg;have aY:=Bk.grown h9 hg h7 (by decide);refine⟨dn++[x,y,z],r,_,_,_,A5,kt+1,c5,rfl,by rw[h1];simp,by simp only[la,aF,ln];omega,by omega,by omega,by omega,?_,?_,?_,aY.set 0 _,?_,?_⟩
 ·exact((h6.apart h7 hg (by decide)).ajl aY (by decide) 0 _).sub (by omega) h5
 ·rw[zZ dn _ h2,TN];exact qA ho aY (by decide) 0 _
 ·rw[zZ dn _ h2,la,h8];rfl
 ·have:=Bk.grown h10 hg h7 (by decide);refine Bk.far this (fun e=> ?_) _;subst e;have:=(dR this aY).1
  revert this
  decide
 exact(h11.grown hg h11.size (fun g e=>(h7.lt g e).1)).setCell hD _
theorem Ja (w:World)(Bd p gm cm:Nat)(gl:Gl)(s:PS)(rv:Rows)(K:Nat)(A:Option Addr)(n c:Nat)(ws:List P3)(t:B)(l:List B)(hP:PSt w Bd p gm cm gl s rv K)(hL:aif w A n ws)(hT:af ws=t::l)(hK:K<=10000000000)(hc:n<=c):
  Calls Tryz.prog 75 #[.pointer (some ⟨p,0,none⟩),.slice A n c] w (ahS w Bd p gm cm gl (K+n) (kU s l)):=by
 have hn:n=l.length+1:=by rw[<-hL.length];exact dE hT
 have hB:=hP.size;have hnn:=hL.few;by_cases h3:l.length % 3=0
 ·obtain⟨A',hsub,hrd,hlen⟩:=hL.sub hc 1 1 rfl (by omega);have HP:=hd0 hP;have hpb:p<w.heap.size:=hP.par.lt;obtain⟨A0,c0,hv⟩:=hP.slice (i:=5) (by decide);have kp:w.cell? ⟨p,6,none⟩=some (rv 5).v:=hP.par.cell 6;rw[hv] at kp;have hfew:=hP.few 5 (by decide);have hns:=hd0 (fun w1 rb (hr:Rdr w1 rb p 0) (hb:Below w.heap.size w w1)=>ug w1 rb p 0 A' (n - 1) (c - 1) (ws.drop 1) hr (hrd.below hb) hlen (by omega));rw[jA hT] at hns;have HR:Hid (kU s l=fin (fB 0 l) {s with f:= {s.f with regions:=s.f.regions++[⟨bT (l.map aA)⟩]}}):=by show _=_;unfold kU;rw[if_neg (by omega)]
  have hI:=hd0 (Hl _ (Ei l));have hnl:Hid ((l.map aA).length=n - 1):=by show _=_;simp;omega
  have aeX:Hid ((l.map aA).length % 3=0):=by show _=_;simp;omega
  have er:(((n:Int) - 1).tmod 3 !=0)=false:=by rw[show(n:Int) - 1=(l.length:Nat) by omega];rw[Int.tmod_eq_emod_of_nonneg (by omega)];simp;omega
  have yO:(((n:Int) - 1) % 3 !=0)=false:=by rw[show(n:Int) - 1=(l.length:Nat) by omega];simp;omega
  have hn1:1<=n:=by omega
  generalize fB 0 l=er0 at*
  generalize l.map aA=nums at*
  clear hP hL hT hrd hlen hn h3;go_enter Tryz.func75,Tryz.ntmps75
  go_wp2_with fail
  refine(fZ w p).mono ?_;rintro e w1 ⟨rfl,hr1,hb1⟩;have hl1:=hr1.lt;have hs1:=hb1.size;have jV:=hd0 (hr1.alloc (.cells #[.slice none 0 0] zn));have Hb1:=hd0 (hb1.alloc hs1 (.cells #[.slice none 0 0] zn));have oL:Hid (Bk (w1.alloc (.cells #[.slice none 0 0] zn)) w1.heap.size zn #[.slice none 0 0]):=Bk.new _ _ _;clear hr1 hb1;go_wp2_with fail
  refine(hns.out _ _ (by exact jV.out) (by exact Hb1.out)).mono ?_;rintro e w2 ⟨v,rfl,A4,c4,rfl,fD,hr4,hg4⟩;have hk2:Bk w2 w1.heap.size zn #[.slice none 0 0]:=Bk.kept2 hg4 oL.out (by omega);have HS:Hid (ai7 w w.heap.size p w1.heap.size er0 nums (.slice A4 (n - 1) c4) w2):=⟨[],nums,A4,n - 1,c4,none,0,0,rfl,rfl,rfl,aeX.out,hnl.out.symm,xu fD,jf fD,World.ownsRow_nil _ _ _ _,rfl,hk2,hr4,aU Hb1.out hg4 (nr _)⟩
  clear fD hr4 hg4 hk2 jV Hb1 oL hsub hns;go_wp2_with fail
  go_loopw [7] (fun v wr=>ai7 w w.heap.size p w1.heap.size er0 nums v wr) (fun v _=>match v with| .slice _ k _=>k|_=>0)
  case atStart=>exact HS.out
  case round=>
   obtain⟨A5,m,c5,rfl,⟨rfl,At,kt,ct,h7,h8,h9,h10,h11⟩|⟨b5,o5,x,y,z,At,kt,ct,xs,rfl,hb5,z0,z1,z2,hm,h7,h8,h9,h11,hnx⟩⟩:=ai7.open hrel hs1
   ·have aB:=HP.out.below h11;have vC:wr.cell? ⟨p,6,none⟩=some (.slice A0 (rv 5).n c0):=((aj h11).1 _ _ hpb).trans kp;have tN:wr.cell? ⟨w1.heap.size,0,none⟩=some (.slice At kt ct):=h9.cell 0;have zp:p<wr.heap.size:=aB.par.lt;have zc:w1.heap.size<wr.heap.size:=h9.lt;have hown:=aB.live.own 5 (by decide);rw[hv] at hown;obtain⟨A6,c6,w9,hrun,di,aN,bz⟩:=iE V6 29 wr Bd _ c0 A0 _ #[.slice At kt ct] rfl hown (by simp[Value.oneCell']) (by omega) aB.size;rw[<-hv] at aN bz;have bI:Bk w9 p jq (dV s rv gm cm):=(aB.row (i:=5) (by decide) (r:=⟨.slice A6 ((rv 5).n+1) c6,_,_⟩) aN di bz).1;have jw:=Bk.grown h10 aN (aB.live.own 5 (by decide)) (by decide);have x9:w9.cell? ⟨p,6,none⟩=some (rv 5).v:=bI.cell 6;have y9:=bI.frozen 6;have z9:w9.cell? ⟨w.heap.size,1,none⟩=some (.int .i64 er0):=jw.cell 1;have hel:ah7 wr (Fz wr rv) [.slice At kt ct] ⟨bT nums⟩:=by rw[h8] at h7 ⊢;exact⟨At,ct,rfl,Sl.aiC h7 (YZ _ _ _ hI.out) (HP.out.fresh h7 (nr _) (by decide)) (by decide)⟩
    have bG:=hd0 (PSt.ajG (m:=1) (K':=K+n) aB aN di bz (ys:=[⟨bT nums⟩]) rfl (Fl.one (R:=ah7) hel rfl) (by omega));have iy:=hd0 ((h11.mono hB).trans (aB.aiA (i:=5) (by decide) aN 6 (.slice A6 ((rv 5).n+1) c6) aB.size));have HQ:=hd0 (KQ.below (cm:=cm) h11);clear hown di aN bz bI jw aB hel h7 h9 h10 h11 HS hrel h8;go_wp2_with fail
    go_region
    all_goals
     go_wp2;go_ret
     exact ahS.fin HR.out iy.out (HQ.out.trans bG.out.2) bG.out.1
   have tN:wr.cell? ⟨w1.heap.size,0,none⟩=some (.slice At kt ct):=h9.cell 0;have zc:w1.heap.size<wr.heap.size:=h9.lt;have hkt:=hnl.out;obtain⟨A6,c6,w9,hrun,di,aN,bz⟩:=iE aag 102 wr w.heap.size _ ct At _ #[.int .i64 x,.int .i64 y,.int .i64 z] rfl h7 (by simp[Value.oneCell']) (by omega) (by omega);have aY:=Bk.grown h9 aN h7 (by decide);have x9:w9.cell? ⟨w1.heap.size,0,none⟩=some (.slice At kt ct):=aY.cell 0;have y9:=aY.frozen 0;have Hnx:=hd0 (hnx _ _ _ di aN);have hsl:=OC Tryz.underlying22 Y5 (some ⟨b5,o5,none⟩) m c5 3 3 rfl hm;clear di aN bz h7 h9 h11 HS hrel h8 hnx aY hkt;go_wp2_with fail
   go_region
   all_goals
    go_wp2;go_roundw
    case rel=>exact Hnx.out
    case measure=>simp;omega
 have HR:Hid (kU s l= .error 22):=by show _=_;unfold kU;rw[if_pos h3]
 have er:(((n:Int) - 1).tmod 3 !=0)=true:=by rw[show(n:Int) - 1=(l.length:Nat) by omega];rw[Int.tmod_eq_emod_of_nonneg (by omega)];simp;omega
 have yO:(((n:Int) - 1) % 3 !=0)=true:=by rw[show(n:Int) - 1=(l.length:Nat) by omega];simp;omega
 clear hP hL hT hc h3 hn;go_enter Tryz.func75,Tryz.ntmps75
 go_wp2;go_ret
 exact ahS.bad HR.out (akl _ _)
end
section
open Go.RowKit
attribute [-go_sem] Builtin.append_
theorem FN (w:World)(Bd p gm cm:Nat)(gl:Gl)(s:PS)(rv:Rows)(K:Nat)(A:Option Addr)(n c:Nat)(ws:List P3)(t:B)(l:List B)(hP:PSt w Bd p gm cm gl s rv K)(hL:aif w A n ws)(hT:af ws=t::l)(hK:K<=1000000000)(hc:n<=c){init:List ahR}{g:ahR}(hs:s.f.ahO=init++[g]){G n0 c9 q:Nat}(h0:(rv 0).v= .slice (some ⟨G,0,none⟩) n0 c9)(hq:q=init.length*9):
  Calls Tryz.prog 81 #[.pointer (some ⟨p,0,none⟩),.slice A n c,.pointer (some ⟨G,q,none⟩)] w (ahS w Bd p gm cm gl (K+n) (gK s l)):=by
 have hn:n=l.length+1:=by rw[<-hL.length];exact dE hT
 have hB:=hP.size;have hnn:=hL.few;by_cases hle:l=[]
 ·have HR:Hid (gK s l= .error 22):=by
   show _=_;unfold gK;rw[if_neg (vG hs),if_pos (.inl hle)]
  have hl0:l.length=0:=by rw[hle];rfl
  have e1:((n:Int)<2):=by omega
  clear hP hL hT hn hs h0 hq hle hl0;go_enter Tryz.func81,Tryz.ntmps81
  go_wp2;go_ret
  exact ahS.bad HR.out (akl _ _)
 have hl1:1<=l.length:=by
  cases l with
  |nil=>exact absurd rfl hle
  |cons a b=>simp
 have hn2:2<=n:=by omega
 have e2n:¬((n:Int)<2):=by omega
 obtain⟨A',hsub,hrd,hlen⟩:=hL.sub hc 1 1 rfl (by omega);have ni:=hd0 (KY w A' (n - 1) (c - 1) (ws.drop 1) hrd hlen (by omega));have hall:(ws.drop 1).all (fun x=>lu x.2.2)=l.all lu:=by rw[yF,jA hT]
 rw[hall] at ni;cases hok:l.all lu with
 |false=>
  rw[hok] at ni;have HR:Hid (gK s l= .error 22):=by show _=_;unfold gK;rw[if_neg (vG hs),if_pos (.inr hok)]
  clear hok hall hP hL hT hrd hlen hn hs h0 hq hle;go_enter Tryz.func81,Tryz.ntmps81
  go_wp2_with (go_at_call 130;refine ni.out.mono ?_;rintro e w1 ⟨rfl,hb1⟩)
  go_ret
  exact ahS.bad HR.out (hb1.mono hB)
 |true=>
  rw[hok] at ni;have HP:=hd0 hP;obtain⟨G',c9',ci,gv,-,-,hGb,jJ,yG,sF⟩:=hP.aiz hs;obtain⟨rfl,hn0,rfl⟩:G'=G/\init.length+1=n0/\c9'=c9:=by rw[gv] at h0;simpa using h0
  have hpb:G'<w.heap.size:=hGb;obtain⟨A0,c0,hv⟩:=hP.slice (i:=8) (by decide);have kp:w.cell? ⟨G',q+3,none⟩=some (rv 8).v:=by rw[hq];exact jJ 3 (by decide)
  rw[hv] at kp;have hfew:=hP.few 8 (by decide);have HR:Hid (gK s l=fin (l.foldl vw 0) {s with f:= {s.f with ahO:=init++[{g with points:=g.points++l.map pX,ends:=g.ends++[((g.points.length+l.length:Nat):Int) - 1]}]}}):=by show _=_;unfold gK;rw[if_neg (vG hs),if_neg (by rw[hok];simp[hle]),sU s _ hs]
  have hpl:g.points.length+l.length<=K+n:=by
   have h5:(rv 8).n=g.points.length:=by
    rcases hP.fnt.gly.2 with⟨e,_⟩|⟨init',g',ci,e1,-,-,-,h5,-⟩
    ·rw[hs] at e;simp at e
    rw[hs] at e1;obtain⟨rfl,e1⟩:=List.append_inj' e1 rfl;obtain rfl:g=g':=by simpa using e1
    exact h5.1
   have:=hP.few 8 (by decide);omega
  have hpn:Hid ((g.points++l.map pX).length=g.points.length+l.length):=by show _=_;simp
  have Hs:=hd0 hs;have Hq:=hd0 hq;have H0:=hd0 h0;have tq:=hd0 sF;have hns:=hd0 (fun w1 rb (hr:Rdr w1 rb p 0) (hb:Below w.heap.size w w1) (aY:w.heap.size<=rb)=>TR w1 rb p 0 A' (n - 1) (c - 1) (ws.drop 1) hr (hrd.below hb) hlen (by omega));rw[jA hT] at hns;have hll:l.length=n - 1:=by omega
  have hfl:=hd0 (fun(w:World) S=>acR w S (l.map pX) (YS l));have hlm:Hid (n - 1=(l.map pX).length):=by show _=_;simp[hll]
  have hone:=hd0 (Zf (l.map pX));have aaR:n - 1<=n:=by omega
  have hn1:1<=n:=by omega
  clear hP hL hT hrd hlen hll hn hall hok hle hs h0 hq gv jJ yG sF hn0;go_enter Tryz.func81,Tryz.ntmps81
  go_wp2_with (go_at_call 130;refine ni.out.mono ?_;rintro e w0 ⟨rfl,hb0⟩)
  go_wp2_with fail
  refine(fZ w0 p).mono ?_;rintro e w1 ⟨rfl,hr1,zi⟩;have hb1:Below w.heap.size w w1:=hb0.trans (zi.mono hb0.size);have k1:w1.cell? ⟨G',q+3,none⟩=some (.slice A0 (rv 8).n c0):=((aj hb1).1 _ _ hpb).trans kp;have k1d:w1.drew.cell? ⟨G',q+3,none⟩=some (.slice A0 (rv 8).n c0):=k1;have hz0:=hb0.size;have hz1:=hb1.size;have hlr:=hr1.lt;have jV:=hd0 hr1;have Hb1:=hd0 hb1;clear hr1 hb1 hb0 zi;go_wp2_with fail
  go_region_with (go_at_call 131;refine(hns.out _ _ (by exact jV.out) (by exact Hb1.out.drew) hz0).mono ?_;rintro e w2 ⟨v,rfl,A4,c4,rfl,fD,hr4,hg4⟩;have hb2:=aU Hb1.out.drew hg4 hz0;have aB:=HP.out.below hb2;have hown:=aB.live.own 8 (by decide);rw[hv] at hown;have zO:=(jf fD).rd;obtain⟨A5,c5,w9,hrun,di,aN,bz⟩:=DW acA 51 w2 Bd _ c0 A0 _ _ A4 (n - 1) c4 _ hown zO hone.out (by omega) aB.size;have k2:w2.cell? ⟨G',q+3,none⟩=some (.slice A0 (rv 8).n c0):=((aj hb2).1 _ _ hpb).trans kp;rw[<-hv] at aN bz;obtain⟨Gi,bI,ru⟩:∃cur,Bk w9 G' 59 cur/\cur[q+3]? =some (rv 8).v:=(by obtain⟨cur,aY⟩:=tq.out;exact⟨cur,Bk.grown (aY.keep (hb2.block G' hpb)) aN (aB.live.own 8 (by decide)) (by decide),by rw[<-aY.cell,kp,hv]⟩);have jw:=Bk.grown hr4 aN (aB.live.own 8 (by decide)) (by decide);have x9:w9.cell? ⟨G',q+3,none⟩=some (rv 8).v:=(bI.cell _).trans ru;have y9:=bI.frozen (q+3);have z9:w9.cell? ⟨w0.heap.size,1,none⟩=some (.int .i64 (l.foldl vw 0)):=jw.cell 1;have Hr9:=hd0 jw;have bG:=hd0 (PSt.ajF (m:=n - 1) (K':=K+(n - 1)) aB Hs.out H0.out aN di bz hlm.out (hfl.out _ _) (by omega));rw[<-Hq.out] at bG;have iy:=hd0 (hb2.mono hB);have HQ:=hd0 (KQ.below (cm:=cm) hb2);clear hown di aN bz bI jw aB hb2 fD hr4 hg4 zO)
  all_goals
   obtain⟨BG,tK,yS,iD,hv5⟩:=bG.out;obtain⟨W5,hW5⟩:∃W5,w9.setCell ⟨G',q+3,none⟩ (.slice A5 ((rv 8).n+(n - 1)) c5)=W5:=⟨_,rfl⟩
   rw[hW5] at tK yS iD ⊢;have nC:Rdr W5 w0.heap.size p (l.foldl vw 0):=by rw[<-hW5];exact Bk.far Hr9.out (by simp;omega) _
   have Qn:=hv5.trans H0.out;obtain⟨G2,c2,ci2,gv2,-,-,hG2,KW,adL,ab9⟩:=tK.aiz (init:=init) rfl;obtain⟨rfl,-,rfl⟩:G2=G'/\init.length+1=n0/\c2=c9':=by rw[gv2] at Qn;simpa using Qn
   obtain⟨A8,c8,hv8⟩:=tK.slice (i:=8) (by decide);obtain⟨A9,c90,SV⟩:=tK.slice (i:=9) (by decide);have q8:W5.cell? ⟨G2,q+3,none⟩=some (BG 8).v:=by rw[Hq.out];exact KW 3 (by decide)
   have q9:W5.cell? ⟨G2,q+3+1,none⟩=some (BG 9).v:=by rw[Hq.out];exact KW 4 (by decide)
   rw[hv8] at q8;rw[SV] at q9;have Iw:(BG 8).n=g.points.length+l.length:=by
    rcases tK.fnt.gly.2 with⟨e,_⟩|⟨init',g',ci,e1,-,-,-,h5,-⟩
    ·simp at e
    obtain⟨rfl,e1⟩:=List.append_inj' e1 rfl;obtain rfl:_=g':=by simpa using e1
    exact h5.1.trans hpn.out
   have hG5:G2<W5.heap.size:=hG2;have Q4:=tK.live.own 9 (by decide);have afz:=tK.few 9 (by decide);rw[SV] at Q4;have hI:I64 (((BG 8).n:Int) - 1):=⟨by omega,by omega⟩
   obtain⟨A6,c6,w10,hrun6,JS,vW,WE⟩:=iE qK 22 W5 Bd _ c90 A9 _ #[.int .i64 (((BG 8).n:Int) - 1)] rfl Q4 (by simp[Value.oneCell']) (by omega) tK.size;rw[<-SV] at vW WE;obtain⟨afx,GN,hq10⟩:∃cur,Bk w10 G2 59 cur/\cur[q+3+1]? =some (BG 9).v:=by obtain⟨cur,aY⟩:=ab9;exact⟨cur,Bk.grown aY vW (tK.live.own 9 (by decide)) (by decide),by rw[<-aY.cell,q9,SV]⟩
   have aaj:=Bk.grown nC vW (tK.live.own 9 (by decide)) (by decide);have x10:w10.cell? ⟨G2,q+3+1,none⟩=some (BG 9).v:=(GN.cell _).trans hq10;have y10:=GN.frozen (q+3+1);have z10:w10.cell? ⟨w0.heap.size,1,none⟩=some (.int .i64 (l.foldl vw 0)):=aaj.cell 1;have EF:=PSt.ajM (m:=1) (K':=K+n) tK (init:=init) rfl Qn vW JS WE (ys:=[((BG 8).n:Int) - 1]) rfl (Fl.one (R:=ahT) ⟨rfl,hI⟩ rfl) (by omega);rw[<-Hq.out] at EF;have EF:=hd0 EF;have hlen1:1<=(BG 8).n:=by omega
   have hlen2:(BG 8).n<=100000000000:=by omega
   have Hm8:=hd0 Iw;have ada:=hd0 (iy.out.trans iD);have aeI:=hd0 (HQ.out.trans yS);clear hv5 Qn gv2 KW adL ab9 Q4 JS vW WE GN hq10 aaj nC tK iD yS Iw hW5 bG hv8 SV;generalize (BG 8).n=m8 at*
   go_wp2_with fail
   go_region
   all_goals
    go_wp2;go_ret
    obtain⟨rv',g1,g2,g3,-⟩:=EF.out;refine ahS.fin ?_ (ada.out.trans g3) (aeI.out.trans g2) g1;rw[HR.out,Hm8.out]
end
section
open Go.RowKit Go.Shelf
theorem Fl.flat {α:Type}{R:Rel α}{size:Nat}(f:α->List Value)(hf:∀x,(f x).length=size)(hR:∀w S cs x,R w S cs x->cs=f x){w:World}{S:Bs}{cells:List Value}{xs:List α}(h:Fl R size w S cells xs):cells=xs.flatMap f:=by
 induction xs generalizing cells with
 |nil=>simpa [Fl] using h.1
 |cons x xs ih=>
  have hl:=h.1;simp only[aF] at hl;obtain⟨cs,r1,r2,r3⟩:=h.2 0 x rfl;obtain rfl:=hR _ _ _ _ r1;have e1:cells.take size=f x:=by
   apply List.ext_getElem?;intro i;by_cases hi:i<size
   ·have:i<(f x).length:=by rw[hf];exact hi
    have h2:=r3 i _ (ako this);rw[akP,if_pos hi];rw[Nat.zero_mul,ak3] at h2;rw[h2,ako this]
   rw[akL (by simp;omega),akL (by rw[hf];omega)]
  have e2:cells.drop size=xs.flatMap f:=by apply ih;refine⟨by simp[hl,alg],fun k y hy=> ?_⟩;obtain⟨cs,s1,s2,s3⟩:=h.2 (k+1) y (by simpa using hy);refine⟨cs,s1,s2,fun j u hu=> ?_⟩;rw[List.getElem?_drop,show size+(k*size+j)=(k+1)*size+j by rw[alg];omega];exact s3 j u hu
  rw[akD,<-e1,<-e2,akS]
def ve (p:Pt):List Value:=[.int .i64 p.x,.int .i64 p.y,.bool p.on]
def iG (l:List Pt):List Value:=l.flatMap ve
theorem Jv (l:List Pt):∀u∈iG l,u.oneCell'=true:=by intro u hu;simp only[iG,akZ] at hu;obtain⟨p,_,hp⟩:=hu;simp only[ve,akx,akV,or_false] at hp;rcases hp with rfl|rfl|rfl<;>rfl
theorem Sl.rd {α:Type}{R:Rel α}{size:Nat}(f:α->List Value)(hf:∀x,(f x).length=size)(hR:∀w S cs x,R w S cs x->cs=f x){w:World}{A:Option Addr}{xs:List α}(h:Sl R size w (FT w) A xs):Rd w w.heap.size A xs.length size (xs.flatMap f):=by
 obtain⟨cells,h1,h2⟩:=h;have e:=h1.flat f hf hR;subst e;exact⟨h1.1,fun h0=>by
  obtain⟨b,o,e,hb,hc⟩:=h2 h0;obtain⟨ob,hb1,-⟩:=hb;exact⟨b,o,e,(akp.1 hb1).1,hc⟩⟩
theorem Sl.akf {w:World}{A:Option Addr}{xs:List Pt}(h:Sl PtR 3 w (FT w) A xs):Rd w w.heap.size A xs.length 3 (iG xs):=h.rd ve (fun _=>rfl) (fun _ _ _ _ h=>h.1)
theorem TW (xs:List Int):xs.flatMap (fun z=>[Value.int .i64 z])=aW xs:=by
 induction xs with
 |nil=>rfl
 |cons x xs ih=>rw[akD,ih];rfl
theorem Sl.aj8 {w:World}{A:Option Addr}{xs:List Int}(h:Sl ahT 1 w (FT w) A xs):Rd w w.heap.size A xs.length 1 (aW xs):=by
 have:=h.rd (fun z=>[.int .i64 z]) (fun _=>rfl) (fun _ _ _ _ h=>h.1)
 rwa [TW] at this
theorem adR {w:World}{A:Option Addr}{xs:List Pt}(h:Sl PtR 3 w (FT w) A xs):∀p∈xs,I64 p.x/\I64 p.y:=by intro p hp;obtain⟨k,hk⟩:=akG.1 hp;obtain⟨b,o,x,-,-,hx,-,-,-,r0,r1⟩:=h.pt (akn.1 hk).1;have:=hx.out;rw[hk] at this;cases this;exact⟨r0,r1⟩
def tu (pts:List Pt)(f e:Nat):List Pt:=(pts.take (e+1)).drop f
theorem XM (pts:List Pt)(k:Nat)(p:Pt)(h:pts[k]? =some p):(iG pts)[k*3]? =some (.int .i64 p.x)/\(iG pts)[k*3+1]? =some (.int .i64 p.y)/\(iG pts)[k*3+2]? =some (.bool p.on):=by
 induction pts generalizing k with
 |nil=>simp at h
 |cons q ps ih=>
  cases k with
  |zero=>simp at h;subst h;simp[iG,ve]
  |succ k=>
   have:=ih k (by simpa using h);have e:iG (q::ps)=ve q++iG ps:=rfl;simp only[e];refine⟨?_,?_,?_⟩<;>rw[akI (by simp[ve];omega)]<;>simp only[ve,aF,ln]
   ·rw[show(k+1)*3 - (0+1+1+1)=k*3 by omega];exact this.1
   ·rw[show(k+1)*3+1 - (0+1+1+1)=k*3+1 by omega];exact this.2.1
   rw[show(k+1)*3+2 - (0+1+1+1)=k*3+2 by omega];exact this.2.2
theorem YP {W:World}{g n:Nat}{pts:List Pt}(h:RdT W 139 (some ⟨g,0,none⟩) n 3 (iG pts))(hn:n=pts.length)(hI:∀p∈pts,I64 p.x/\I64 p.y)(f e:Nat)(hfe:f<=e)(he:e<n):Sl PtR 3 W (FT W) (some ⟨g,f*3,none⟩) (tu pts f e):=by
 obtain⟨b,o,cur,e1,hb,hc⟩:=h.2 (by omega);simp only[akM,Addr.mk.injEq,and_true] at e1;obtain⟨rfl,rfl⟩:=e1;have key:∀k x,(tu pts f e)[k]? =some x->pts[f+k]? =some x:=by
  intro k x hx;rw[tu,List.getElem?_drop,akP] at hx;split at hx
  ·exact hx
  cases hx
 refine⟨iG (tu pts f e),⟨?_,fun k x hx=> ?_⟩,fun _=>⟨g,f*3,rfl,EL hb (by decide) (by decide),fun j u hu=> ?_⟩⟩
 ·have:∀l:List Pt,(iG l).length=l.length*3:=by
   intro l;induction l with
   |nil=>rfl
   |cons x l ih=>simp only[iG,akD,la,ve,aF,ln] at ih ⊢;omega
  exact this _
 ·refine⟨ve x,⟨rfl,hI x (akt (key k x hx))⟩,rfl,fun j u hu=> ?_⟩;obtain⟨q0,q1,q2⟩:=XM _ k x hx
  match j,hu with
  |0,hu=>simp[ve] at hu;subst hu;exact q0
  |1,hu=>simp[ve] at hu;subst hu;exact q1
  |2,hu=>simp[ve] at hu;subst hu;exact q2
 rw[Bk.cell hb];have h5:(iG pts)[f*3+j]? =some u:=by
  have e2:iG (tu pts f e)=((iG pts).take ((e+1)*3)).drop (f*3):=by
   have a1:∀(l:List Pt) (k:Nat),iG (l.take k)=(iG l).take (k*3):=by
    intro l;induction l with
    |nil=>intro k;simp[iG]
    |cons x l ih=>
     intro k;cases k with
     |zero=>simp[iG]
     |succ k=>have:=ih k;simp only[iG,List.take_succ_cons,akD] at this ⊢;rw[this,show(k+1)*3=k*3+3 by omega];simp[ve]
   have a2:∀(l:List Pt) (k:Nat),iG (l.drop k)=(iG l).drop (k*3):=by
    intro l;induction l with
    |nil=>intro k;simp[iG]
    |cons x l ih=>
     intro k;cases k with
     |zero=>simp[iG]
     |succ k=>have:=ih k;simp only[iG,List.drop_succ_cons,akD] at this ⊢;rw[this,show(k+1)*3=k*3+3 by omega];simp[ve]
   rw[tu,a2,a1]
  rw[e2,List.getElem?_drop,akP] at hu;split at hu
  ·exact hu
  cases hu
 have:=hc _ _ h5
 rwa [ak3] at this
theorem Kz (pts:List Pt)(f e:Nat)(h:e<pts.length):(tu pts f e).length=e+1 - f:=by simp[tu];omega
def ui (pts:List Pt)(x:Bo):B:=au eX ((tu pts x.2.1 x.2.2.1).map jb)
theorem XN (pts:List Pt)(es:List Int):∀(k f:Nat),(nX pts.length k f es).map (fun p=>tu pts p.2.1 p.2.2)=eQ pts f es:=by
 induction es with
 |nil=>intro k f;rfl
 |cons e es ih=>
  intro k f;rw[nX,eQ];by_cases h:(f:Int)<=e/\e<(pts.length:Int)
  ·rw[if_pos h,if_neg (by omega),akv,ih];rfl
  rw[if_neg h,if_pos (by omega)];rfl
theorem EG (pts:List Pt)(es:List Int)(g:Nat):(EZ g (nX pts.length 0 0 es)).flatMap (ui pts)=(eQ pts 0 es).flatMap (fun c=>au eX (c.map jb)):=by rw[<-XN pts es 0 0,EZ,List.flatMap_map,List.flatMap_map];rfl
def rq (w W0:World)(Bd g:Nat)(fc:Nat->Value)(T:B)(W:World):Prop:=Pr W Bd g fc T/\KP W0 W/\Below Bd w W
theorem Me {W W':World}{Bd g:Nat}{fc:Nat->Value}{T:B}{row:Option Nat}(h:Pr W Bd g fc T)(hg:W.grownBy W' row)(hr:∀r,row=some r->∃o:Obj,W.heap[r]? =some o/\o.isCells=false):Pr W' Bd g fc T:=by
 obtain⟨ad,v,h1,h2,h3,h4⟩:=h;refine⟨ad,v,h1,(grownBy_keeps_cells hg hr h2 rfl).trans h2,h3,h4.kept hg ?_⟩;cases hrow:row with
 |none=>cases hv:v.ownBlock<;>simp
 |some r=>refine .inr (fun e=> ?_);obtain⟨o,ho,hc⟩:=hr r hrow;obtain⟨cur,hk⟩:=oO h4 r e;have hk2:W.heap[r]? =_:=hk;rw[hk2] at ho;cases ho;cases hc
theorem MW {W0 W W':World}{row:Option Nat}(h:KP W0 W)(hg:W.grownBy W' row)(hr:∀r,row=some r->W0.heap.size<=r):KP W0 W':=
 ⟨fun b o hb hn=>by
  have h1:=h.same b o hb hn;refine(hg.block b (akp.1 h1).1 (fun e=> ?_)).trans h1;have:=hr b e.symm;have:=(akp.1 hb).1;omega,nt h.size hg.size⟩
theorem Zh {w W0:World}{Bd g B0:Nat}{fc:Nat->Value}(F:List Bo->B)(hB:W0.heap.size<=B0)(hw:Bd<=W0.heap.size):OwnFrom B0 (fun pre W=>rq w W0 Bd g fc (F pre) W):=by intro s A C row hs hg hr;obtain⟨h1,h2,h3⟩:=hs;refine⟨Me h1 hg (fun r e=>(hr r e).2),MW h2 hg (fun r e=>nt hB (hr r e).1),?_⟩;exact h3.grown hg (nt hw h2.size) (fun r e=>nt (nt hw hB) (hr r e).1)
end
section
open Go.RowKit
def YL (t:aiH):Prop:= -64<=t.start/\t.start<=t.peak/\t.peak<=t.stop/\t.stop<=64
def Eo (a:aiM):Prop:=nameB a.name=true/\N9 a.min'/\N9 a.aiv/\N9 a.max'
def KA (n:Nat)(r:Region):Prop:=r.ah4.length=n/\∀t∈r.ah4,YL t
theorem Up.all' {α:Type}{l:List α}{n:Nat}{P:α->Prop}(h:Up l n P)(e:l.length=n):∀x∈l,P x:=fun x hx=>h x (by rwa [akE (Nat.le_of_eq e)])
theorem Xi (w:World)(f:Fnt)(A1 A2 A3 A4 A5 A6 A7 A8:Option Addr)(c1 c2 c3 c4 c5 c6 c7 c8:Nat)(hF:FIn ⟨A1,c1,A2,c2,A3,c3,A4,c4,A5,c5,A6,c6,A7,c7,A8,c8⟩ f w)(hn:Big f.ahQ.length)(hm:Big f.regions.length)(hN:∀a∈f.ahQ,Big a.name.length)(hT:∀r∈f.regions,Big r.ah4.length):Calls Tryz.prog 68 #[.agg #[.int .i64 f.unit,.slice A1 f.ahO.length c1,.slice A2 f.chars.length c2,.slice A3 f.ahP.length c3,.slice A4 f.features.length c4,.slice A5 f.ahQ.length c5,.slice A6 f.regions.length c6,.slice A7 f.funcs.length c7,.slice A8 f.cvt.length c8]] w (Ed w ((f.ahQ.length<=3/\∀a∈f.ahQ,Eo a)/\f.regions.length<=16/\∀r∈f.regions,KA f.ahQ.length r)):=by
 obtain⟨P,HP⟩:∃P:Prop,Hid (P=((f.ahQ.length<=3/\∀a∈f.ahQ,Eo a)/\f.regions.length<=16/\∀r∈f.regions,KA f.ahQ.length r)):=⟨_,rfl⟩
 rw[<-HP.out];unfold Big at hn hm;obtain⟨Wf,hWf,hbf,bW⟩:=aQ w 32 #[.int .i64 f.unit,.slice A1 f.ahO.length c1,.slice A2 f.chars.length c2,.slice A3 f.ahP.length c3,.slice A4 f.features.length c4,.slice A5 f.ahQ.length c5,.slice A6 f.regions.length c6,.slice A7 f.funcs.length c7,.slice A8 f.cvt.length c8];have aZ:Hid (Below w.heap.size w Wf):=hd0 hbf;have lg:=hd0 bW;have kN:=hd0 (hF.below hbf);obtain⟨Wg,oH,hbg,hkg⟩:=aQ Wf 107 #[.int .i64 0,.int .i64 0];have dh:Hid (Below w.heap.size w Wg):=hd0 (aZ.out.trans (hbg.mono aZ.out.size));have ak:=hd0 hkg;have aH:Hid (Bk Wg w.heap.size 32 #[.int .i64 f.unit,.slice A1 f.ahO.length c1,.slice A2 f.chars.length c2,.slice A3 f.ahP.length c3,.slice A4 f.features.length c4,.slice A5 f.ahQ.length c5,.slice A6 f.regions.length c6,.slice A7 f.funcs.length c7,.slice A8 f.cvt.length c8]):=hd0 (Bk.bel bW hbg);have HF2:=hd0 (kN.out.below hbg);have hzg:=dh.out.size;have mQ:Hid (Below Wg.heap.size Wg Wg):=hd0 (akl _ _);have k5:=aH.out.cell 5;have g0:=hkg.cell 0;have g1:=hkg.cell 1;have z0:=hkg.frozen 0;have z1:=hkg.frozen 1;clear hF hbf bW hbg hkg kN;go_enter Tryz.func68,Tryz.ntmps68
 by_cases h1:3<f.ahQ.length
 ·have bh1:decide ((3:Int)<f.ahQ.length)=true:=decide_eq_true (by omega);go_wp2_with fail
  exact aX rfl ak.out mQ.out aZ.out.size dh.out _ _ rfl (fun h=>absurd h (by decide))
 have bh1:decide ((3:Int)<f.ahQ.length)=false:=decide_eq_false (by omega);go_wp2_with fail
 try clear hWf
 try clear oH
 go_loopw [3] (fun i wr=>∃q:Nat,q<=f.ahQ.length/\i= .int .i64 q/\Hid (Up f.ahQ q Eo)/\Below Wg.heap.size Wg wr) (fun i _=>f.ahQ.length - (intOf i).toNat)
 case atStart=>exact⟨0,by omega,rfl,hd0 (Up.zero _ _),akl _ _⟩
 case round=>
  obtain⟨w5,rfl⟩:∃x,x=wr:=⟨_,rfl⟩
  obtain⟨q,hq,rfl,hup,hb5⟩:=hrel;have iD:Hid (Below Wg.heap.size Wg w5):=hd0 hb5;have E5:Hid (Below w.heap.size w w5):=hd0 (dh.out.trans (hb5.mono hzg));clear k5;clear g0 g1 z0 z1;have k5:=aH.out.at hb5 5 rfl;have k6:=aH.out.at hb5 6 rfl;have g0:=ak.out.at hb5 0 rfl;have g1:=ak.out.at hb5 1 rfl;have z0:=(ak.out.bel hb5).frozen 0;have z1:=(ak.out.bel hb5).frozen 1;by_cases hlt:q<f.ahQ.length
  ·clear k6;obtain⟨b,o,x,rfl,hb,hx,q0,q1,q2,q3,-⟩:=(HF2.out.ahQ.lw aij.ok hb5).aje hlt;obtain⟨W3,hW3,hb3,hk3⟩:=aQ w5 99 #[.string ⟨x.name.toArray⟩,.int .i64 x.min',.int .i64 x.aiv,.int .i64 x.max'];have HB3:Hid (Below Wg.heap.size Wg W3):=hd0 (hb5.trans (hb3.mono hb5.size));have E3:Hid (Below w.heap.size w W3):=hd0 (dh.out.trans (HB3.out.mono hzg));have nD:=hd0 hk3;have p0:=hk3.cell 0;have HO:=hd0 (MH W3 x.name (hN x (akt hx.out)));clear hb hb3 hk3 hb5;go_wp2_with fail
   refine HO.out.mono ?_;rintro e w4 ⟨b4,rfl,CU,hb4⟩;have uV:Below Wg.heap.size Wg w4:=HB3.out.trans (hb4.mono HB3.out.size);have HB4:Hid (Below Wg.heap.size Wg w4):=hd0 uV;have E4:Hid (Below w.heap.size w w4):=hd0 (dh.out.trans (uV.mono hzg));clear k5;clear g0 g1 z0 z1;have k5:=aH.out.at uV 5 rfl;have g0:=ak.out.at uV 0 rfl;have g1:=ak.out.at uV 1 rfl;have z0:=(ak.out.bel uV).frozen 0;have z1:=(ak.out.bel uV).frozen 1;clear HO uV q0 q1 q2 q3 hW3;cases b4
   ·clear CU hb4;go_wp2_with fail
    exact aX rfl ak.out HB4.out aZ.out.size E4.out _ _ rfl (fun h=>absurd h (by decide))
   have HN:=hd0 (CU rfl);clear CU;go_wp2_with fail
   go_loopw [6] (fun i wr=>∃j:Nat,j<=q/\i= .int .i64 j/\Below W3.heap.size W3 wr) (fun i _=>q - (intOf i).toNat)
   case atStart=>exact⟨0,by omega,rfl,hb4⟩
   case round=>
    obtain⟨w6,rfl⟩:∃x,x=wr:=⟨_,rfl⟩
    obtain⟨j,hj,rfl,rD⟩:=hrel;have hb6:Below Wg.heap.size Wg w6:=HB3.out.trans (rD.mono HB3.out.size);have gY:Hid (Below Wg.heap.size Wg w6):=hd0 hb6;have E6:Hid (Below w.heap.size w w6):=hd0 (dh.out.trans (hb6.mono hzg));clear k5;clear g0 g1 z0 z1;have k5:=aH.out.at hb6 5 rfl;have g0:=ak.out.at hb6 0 rfl;have g1:=ak.out.at hb6 1 rfl;have z0:=(ak.out.bel hb6).frozen 0;have z1:=(ak.out.bel hb6).frozen 1;have afe:=hd0 rD;clear p0;have p0:=nD.out.at rD 0 rfl;have p1:=nD.out.at rD 1 rfl;have p2:=nD.out.at rD 2 rfl;have p3:=nD.out.at rD 3 rfl;by_cases hjq:j<q
    ·obtain⟨b2,o2,z,e2,hb2,hz,v0,-⟩:=(HF2.out.ahQ.lw aij.ok hb6).aje (k:=j) (by omega);obtain⟨rfl,rfl⟩:b=b2/\o=o2:=by simpa using e2
     clear hb2 e2 hb6 hb4 p1 p2 p3 rD;by_cases hnm:z.name=x.name
     ·have hq2:(z.name==x.name)=true:=by rw[hnm];simp
      clear hnm;go_wp2_with fail
      go_quiet (fail)
      go_wp2_with fail
      exact aX rfl ak.out (below_drewN gY.out _) aZ.out.size (below_drewN E6.out _) _ _ rfl (fun h=>absurd h (by decide))
     have hq2:(z.name==x.name)=false:=by simpa using hnm
     clear hnm hz;go_wp2_with fail
     go_quiet (fail)
     go_wp2_with fail
     go_roundw
     case rel=>exact⟨j+1,by omega,by simp,below_drewN afe.out _⟩
     case measure=>simp[intOf];omega
    obtain rfl:q=j:=by omega
    clear hb6 hb4 p0 k5;by_cases m1:fO x.min'=false\/fO x.max'=false\/x.aiv<x.min'\/x.max'<x.aiv
    ·have hm:∃c1 c2 c3 c4:Bool,fO x.min'=c1/\fO x.max'=c2/\decide (x.aiv<x.min')=c3/\decide (x.max'<x.aiv)=c4/\((c3||c4)|| !c1|| !c2)=true:=⟨_,_,_,_,rfl,rfl,rfl,rfl,by
      rcases m1 with m|m|m|m<;>simp[m]⟩
     clear m1;obtain⟨c1,c2,c3,c4,M1,M2,M3,M4,M5⟩:=hm;cases c3<;>cases c4<;>cases c1<;>cases c2<;>first
      |(exfalso;revert M5;decide)
      |(clear M5;go_wp2_with (first|(go_at_call 116;refine(dD _ _).mono ?_;rintro e w' ⟨rfl,rfl⟩));exact aX rfl ak.out gY.out aZ.out.size E6.out _ _ rfl (fun h=>absurd h (by decide)))
    have wW:fO x.min'=true:=by cases h:fO x.min'<;>simp_all
    have EK:fO x.max'=true:=by cases h:fO x.max'<;>simp_all
    have Pv:decide (x.aiv<x.min')=false:=decide_eq_false fun h=>m1 (.inr (.inr (.inl h)))
    have Yn:decide (x.max'<x.aiv)=false:=decide_eq_false fun h=>m1 (.inr (.inr (.inr h)))
    have a3:=of_decide_eq_false Pv;have a4:=of_decide_eq_false Yn;clear m1;have n1:=mg wW;have n2:=mg EK;have dm:=hd0 (hup.out.snoc hx.out (show Eo x from⟨HN.out,n1,⟨by unfold N9 at n1 n2;omega,by unfold N9 at n1 n2;omega⟩,n2⟩));clear n1 n2;go_wp2_with (first|(go_at_call 116;refine(dD _ _).mono ?_;rintro e w' ⟨rfl,rfl⟩))
    go_roundw
    case rel=>exact⟨q+1,by omega,by simp,dm,gY.out⟩
    case measure=>simp[intOf];omega
  obtain rfl:q=f.ahQ.length:=by omega
  have HU:=hd0 (fun x (hx:x∈f.ahQ)=>hup.out.all x hx);clear hup hb5;by_cases h3:16<f.regions.length
  ·have kM:decide ((16:Int)<f.regions.length)=true:=decide_eq_true (by omega);go_wp2_with fail
   exact aX rfl ak.out iD.out aZ.out.size E5.out _ _ rfl (fun h=>absurd h (by decide))
  have kM:decide ((16:Int)<f.regions.length)=false:=decide_eq_false (by omega);go_wp2_with fail
  go_loopw [9] (fun i wr=>∃q:Nat,q<=f.regions.length/\i= .int .i64 q/\Hid (Up f.regions q (KA f.ahQ.length))/\Below Wg.heap.size Wg wr) (fun i _=>f.regions.length - (intOf i).toNat)
  case atStart=>exact⟨0,by omega,rfl,hd0 (Up.zero _ _),iD.out⟩
  case round=>
   obtain⟨w7,rfl⟩:∃x,x=wr:=⟨_,rfl⟩
   obtain⟨q,hq,rfl,hup,hb7⟩:=hrel;have nJ:Hid (Below Wg.heap.size Wg w7):=hd0 hb7;have E7:Hid (Below w.heap.size w w7):=hd0 (dh.out.trans (hb7.mono hzg));clear k5 k6;clear g0 g1 z0 z1;have k5:=aH.out.at hb7 5 rfl;have k6:=aH.out.at hb7 6 rfl;have g0:=ak.out.at hb7 0 rfl;have g1:=ak.out.at hb7 1 rfl;have z0:=(ak.out.bel hb7).frozen 0;have z1:=(ak.out.bel hb7).frozen 1;by_cases hlt:q<f.regions.length
   ·obtain⟨b,o,y,D,t,hA6,hbl,hx,q0,s0⟩:=HF2.out.regs.region hlt;simp only at hA6;subst hA6;have Q0:=hd0 q0;have HT:=hd0 s0;have htB:y.ah4.length<=10000000000000:=hT y (akt hx.out);clear q0 s0;have q0:=((aj hb7).1 _ (o+q) hbl).trans Q0.out;clear hb7;by_cases htl:y.ah4.length=f.ahQ.length
    ·have ht2:((y.ah4.length:Int) !=(f.ahQ.length:Int))=false:=by rw[htl];simp
     go_wp2_with fail
     go_quiet (fail)
     go_wp2_with fail
     go_loopw [10] (fun i wr=>∃j:Nat,j<=f.ahQ.length/\i= .int .i64 j/\Hid (Up y.ah4 j YL)/\Below Wg.heap.size Wg wr) (fun i _=>f.ahQ.length - (intOf i).toNat)
     case atStart=>exact⟨0,by omega,rfl,hd0 (Up.zero _ _),(below_drewN nJ.out _)⟩
     case round=>
      obtain⟨w8,rfl⟩:∃x,x=wr:=⟨_,rfl⟩
      obtain⟨j,hj,rfl,aa9,hb8⟩:=hrel;have lD:Hid (Below Wg.heap.size Wg w8):=hd0 hb8;have E8:Hid (Below w.heap.size w w8):=hd0 (dh.out.trans (hb8.mono hzg));clear k5 k6;clear g0 g1 z0 z1;have k5:=aH.out.at hb8 5 rfl;have k6:=aH.out.at hb8 6 rfl;have g0:=ak.out.at hb8 0 rfl;have g1:=ak.out.at hb8 1 rfl;have z0:=(ak.out.bel hb8).frozen 0;have z1:=(ak.out.bel hb8).frozen 1;clear q0;have q0:=((aj hb8).1 _ (o+q) hbl).trans Q0.out;by_cases hjt:j<f.ahQ.length
      ·obtain⟨b2,o2,t,rfl,hb2,ht,v0,v1,v2,-⟩:=(HT.out.lw aiI.ok hb8).ajB (k:=j) (by omega);have HO:=hd0 (ZQ w8 t.start t.peak t.stop);clear hb2 hb8;go_wp2_with fail
       refine HO.out.mono ?_;rintro e w9 ⟨b9,rfl,Du,ach⟩;have aY:Below Wg.heap.size Wg w9:=lD.out.trans (ach.mono lD.out.size);have nO:Hid (Below Wg.heap.size Wg w9):=hd0 aY;have E9:Hid (Below w.heap.size w w9):=hd0 (dh.out.trans (aY.mono hzg));clear k5 k6;clear g0 g1 z0 z1;have k5:=aH.out.at aY 5 rfl;have k6:=aH.out.at aY 6 rfl;have g0:=ak.out.at aY 0 rfl;have g1:=ak.out.at aY 1 rfl;have z0:=(ak.out.bel aY).frozen 0;have z1:=(ak.out.bel aY).frozen 1;clear HO aY ach;cases b9
       ·clear Du;go_wp2_with fail
        exact aX rfl ak.out nO.out aZ.out.size E9.out _ _ rfl (fun h=>absurd h (by decide))
       have dm:=hd0 (aa9.out.snoc ht.out (Du rfl));clear Du;go_wp2_with fail
       go_roundw
       case rel=>exact⟨j+1,by omega,by simp,dm,nO.out⟩
       case measure=>simp[intOf];omega
      obtain rfl:j=f.ahQ.length:=by omega
      have dm:=hd0 (hup.out.snoc hx.out (⟨htl,fun t ht=>aa9.out.all' htl t ht⟩:KA f.ahQ.length y));clear hb8;go_wp2_with fail
      go_roundw
      case rel=>exact⟨q+1,by omega,by simp,dm,lD.out⟩
      case measure=>simp[intOf];omega
    have ht2:((y.ah4.length:Int) !=(f.ahQ.length:Int))=true:=gI (by omega);go_wp2_with fail
    go_quiet (fail)
    go_wp2_with fail
    exact aX rfl ak.out (below_drewN nJ.out _) aZ.out.size (below_drewN E7.out _) _ _ rfl (fun h=>absurd h (by decide))
   obtain rfl:q=f.regions.length:=by omega
   have hg:P:=HP.out.mpr ⟨⟨by omega,HU.out⟩,by omega,fun n hn=>hup.out.all n hn⟩;clear hb7;go_wp2_with fail
   exact aX rfl ak.out nJ.out aZ.out.size E7.out 0 _ rfl (fun _=>hg)
end
end Go.Proofs.YtkijckccfookeaaGreatDoor
