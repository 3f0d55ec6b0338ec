/- parse: region. -/
import Derived.Test.YtkijckccfookeaaGreatDoorU24
set_option linter.unusedVariables false
set_option linter.unusedSimpArgs false
set_option maxRecDepth 100000
set_option maxHeartbeats 32000000
namespace Go.Proofs.YtkijckccfookeaaGreatDoor
section
open Go.RowKit
attribute [-go_sem] Builtin.append_
def yX (l:List alv):List Value:=l.flatMap fun t=>[.int .i64 t.start,.int .i64 t.peak,.int .i64 t.stop]
theorem Yd (a b:List alv):yX (a++b)=yX a++yX b:=by simp[yX]
theorem Dh:∀(a b:List Int),a.length % 3=0->dJ (a++b)=dJ a++dJ b
 |[],b,_=>rfl
 |[x],b,h=>by simp at h
 |[x,y],b,h=>by simp at h
 |x::y::z::r,b,h=>by
  have h2:r.length % 3=0:=by simp only[aT] at h;omega
  show⟨x,y,z⟩::dJ (r++b)=⟨x,y,z⟩::(dJ r++dJ b)
  rw[Dh r b h2]
theorem JK:∀(a:List Int),(∀x∈a,I64 x)->∀t∈dJ a,I64 t.start/\I64 t.peak/\I64 t.stop
 |[],_,t,ht=>by simp[dJ] at ht
 |[x],_,t,ht=>by simp[dJ] at ht
 |[x,y],_,t,ht=>by simp[dJ] at ht
 |x::y::z::r,h,t,ht=>by
  have ht:t∈⟨x,y,z⟩::dJ r:=ht;rcases anG.1 ht with rfl|ht
  ·exact⟨h x (by simp),h y (by simp),h z (by simp)⟩
  exact JK r (fun u hu=>h u (by simp[hu])) t ht
theorem KR:∀(a:List Int),(dJ a).length<=a.length
 |[]=>af _
 |[x]=>by simp[dJ]
 |[x,y]=>by simp[dJ]
 |x::y::z::r=>by
  show(⟨x,y,z⟩::dJ r:List alv).length<=_;have:=KR r;simp only[aT];omega
theorem abe (w:World)(S:Bs)(l:List alv)(h:∀t∈l,I64 t.start/\I64 t.peak/\I64 t.stop):Fl alM 3 w S (yX l) l:=by
 induction l with
 |nil=>exact Fl.nil
 |cons x r ih=>obtain⟨h1,h2,h3⟩:=h x (by simp);exact(Fl.one (R:=alM) (cs:=[.int .i64 x.start,.int .i64 x.peak,.int .i64 x.stop]) ⟨rfl,h1,h2,h3⟩ rfl).append (ih (fun y hy=>h y (by simp[hy])))
theorem three {l:List Int}(h:l.length % 3=0)(h0:l≠[]):∃x y z r,l=x::y::z::r:=by
 match l,h,h0 with
 |[],_,h0=>exact absurd rfl h0
 |[x],h,_=>simp at h
 |[x,y],h,_=>simp at h
 |x::y::z::r,_,_=>exact⟨x,y,z,r,rfl⟩
theorem RdT.apart {w w2:World}{t e:TypeId}{A:Option Addr}{n size base s2 n2 c2:Nat}{A2:Option Addr}{cs xs:List Value}(h:RdT w t A n size cs)(ho:w.ownsRow base e s2 (.slice A2 n2 c2) n2 xs)(hg:w.grownBy w2 (Value.slice A2 n2 c2).ownBlock)(hne:t≠e):RdT w2 t A n size cs:=
 ⟨h.1,fun h0=>by
  obtain⟨b,o,cur,e1,hb,hr⟩:=h.2 h0;exact⟨b,o,cur,e1,Bk.grown hb hg ho hne,hr⟩⟩
theorem RdT.ami {w:World}{t e:TypeId}{A:Option Addr}{n size g:Nat}{cs:List Value}{Fp:Array Value}(h:RdT w t A n size cs)(hb:Bk w g e Fp)(hne:t≠e)(i:Nat)(u:Value):RdT (w.setCell ⟨g,i,none⟩ u) t A n size cs:=
 ⟨h.1,fun h0=>by
  obtain⟨b,o,cur,e1,hb1,hr⟩:=h.2 h0;refine⟨b,o,cur,e1,Bk.far hb1 (fun e'=> ?_) u,hr⟩;subst e';exact hne (bU hb1 hb).1⟩
abbrev BC:TypeId:=104
def al9 (w:World)(rb p D:Nat)(er:Int)(nums:List Int)(v:Value)(wr:World):Prop:=
 ∃(dn rs:List Int) (A:Option Addr) (m c:Nat) (At:Option Addr) (kt ct:Nat),v= .slice A m c/\nums=dn++rs/\dn.length % 3=0/\rs.length % 3=0/\m=rs.length/\m<=c/\RdT wr 3 A m 1 (aH rs)/\
  wr.ownsRow w.heap.size 101 3 (.slice At kt ct) kt (yX (dJ dn))/\kt=(dJ dn).length/\Bk wr D BC #[.slice At kt ct]/\Rdr wr rb p er/\Below w.heap.size w wr
theorem aae (x:Int)(l:List Int):aH (x::l)= .int .i64 x::aH l:=rfl
theorem al9.open {w wr:World}{rb p D:Nat}{er:Int}{nums:List Int}{v:Value}(h:al9 w rb p D er nums v wr)(hD:w.heap.size<=D):∃A m c,v= .slice A m c/\((m=0/\∃At kt ct,wr.ownsRow w.heap.size 101 3 (.slice At kt ct) kt (yX (dJ nums))/\kt=(dJ nums).length/\Bk wr D BC #[.slice At kt ct]/\Rdr wr rb p er/\Below w.heap.size w wr)\/
  ∃b o x y z At kt ct xs,A=some ⟨b,o,none⟩/\b<wr.heap.size/\wr.cell? ⟨b,o,none⟩=some (.int .i64 x)/\wr.cell? ⟨b,o+1,none⟩=some (.int .i64 y)/\wr.cell? ⟨b,o+2,none⟩=some (.int .i64 z)/\3<=m/\wr.ownsRow w.heap.size 101 3 (.slice At kt ct) kt xs/\kt<=nums.length/\Bk wr D BC #[.slice At kt ct]/\Below w.heap.size w wr/\
   ∀A5 c5 w9,w9.ownsRow w.heap.size 101 3 (.slice A5 (kt+1) c5) (kt+1) (xs++[.int .i64 x,.int .i64 y,.int .i64 z])->wr.grownBy w9 (Value.slice At kt ct).ownBlock->al9 w rb p D er nums (.slice (if c=3 then A else A.map (·.add (3*1))) (m - 3) (c - 3)) (w9.setCell ⟨D,0,none⟩ (.slice A5 (kt+1) c5))):=by
 obtain⟨dn,rs,A,m,c,At,kt,ct,rfl,h1,h2,h3,h4,h5,h6,h7,h8,h9,h10,h11⟩:=h;refine⟨A,m,c,rfl,?_⟩;by_cases hr:rs=[]
 ·subst hr;rw[an0] at h1;subst h1;exact .inl ⟨h4,At,kt,ct,h7,h8,h9,h10,h11⟩
 obtain⟨x,y,z,r,rfl⟩:=three h3 hr;simp only[aT] at h4 h3;obtain⟨b,o,cur,e1,hb,hc⟩:=h6.2 (by omega);refine .inr ⟨b,o,x,y,z,At,kt,ct,_,e1,hb.lt,(hb.cell o).trans (hc 0 _ rfl),(hb.cell _).trans (hc 1 _ rfl),(hb.cell _).trans (hc 2 _ rfl),by omega,h7,?_,h9,h11,?_⟩
 ·rw[h8,h1,la];have:=KR dn;omega
 intro A5 c5 w9 ho hg;have dB:=Bk.grown h9 hg h7 (by decide);refine⟨dn++[x,y,z],r,_,_,_,A5,kt+1,c5,rfl,by rw[h1];simp,by simp only[la,aT,ln];omega,by omega,by omega,by omega,?_,?_,?_,dB.set 0 _,?_,?_⟩
 ·exact((h6.apart h7 hg (by decide)).ami dB (by decide) 0 _).sub (by omega) h5
 ·rw[Dh dn _ h2,Yd];exact qU ho dB (by decide) 0 _
 ·rw[Dh dn _ h2,la,h8];rfl
 ·have:=Bk.grown h10 hg h7 (by decide);refine Bk.far this (fun e=> ?_) _;subst e;have:=(bU this dB).1
  revert this
  decide
 exact(h11.grown hg h11.size (fun g e=>(h7.lt g e).1)).setCell hD _
theorem KW (w:World)(Bd p gm cm:Nat)(gl:Gl)(s:PS)(rv:Rows)(K:Nat)(A:Option Addr)(n c:Nat)(ws:List P3)(t:B)(l:List B)(hP:PSt w Bd p gm cm gl s rv K)(hL:alg w A n ws)(hT:ag ws=t::l)(hK:K<=10000000000)(hc:n<=c):
  Calls Tryz.prog 75 #[.pointer (some ⟨p,0,none⟩),.slice A n c] w (akO w Bd p gm cm gl (K+n) (qW s l)):=by
 have hn:n=l.length+1:=by rw[<-hL.length];exact dF hT
 have hB:=hP.size;have hnn:=hL.few;by_cases h3:l.length % 3=0
 ·obtain⟨A',hsub,hrd,hlen⟩:=hL.sub hc 1 1 rfl (by omega);have HP:=hd0 hP;have hpb:p<w.heap.size:=hP.par.lt;obtain⟨A0,c0,hv⟩:=hP.slice (i:=5) (by decide);have kp:w.cell? ⟨p,6,none⟩=some (rv 5).v:=hP.par.cell 6;rw[hv] at kp;have hfew:=hP.few 5 (by decide);have hns:=hd0 (fun w1 rb (hr:Rdr w1 rb p 0) (hb:Below w.heap.size w w1)=>vI w1 rb p 0 A' (n - 1) (c - 1) (ws.drop 1) hr (hrd.below hb) hlen (by omega));rw[jO hT] at hns;have HR:Hid (qW s l=fin (fD 0 l) {s with f:= {s.f with regions:=s.f.regions++[⟨dJ (l.map aI)⟩]}}):=by show _=_;unfold qW;rw[if_neg (by omega)]
  have hI:=hd0 (JK _ (FC l));have hnl:Hid ((l.map aI).length=n - 1):=by show _=_;simp;omega
  have ag3:Hid ((l.map aI).length % 3=0):=by show _=_;simp;omega
  have er:(((n:Int) - 1).tmod 3 !=0)=false:=by rw[show(n:Int) - 1=(l.length:Nat) by omega];rw[Int.tmod_eq_emod_of_nonneg (by omega)];simp;omega
  have AU:(((n:Int) - 1) % 3 !=0)=false:=by rw[show(n:Int) - 1=(l.length:Nat) by omega];simp;omega
  have hn1:1<=n:=by omega
  generalize fD 0 l=er0 at*
  generalize l.map aI=nums at*
  clear hP hL hT hrd hlen hn h3;go_enter Tryz.func75,Tryz.ntmps75
  go_wp2_with fail
  refine(gy w p).mono ?_;rintro e w1 ⟨rfl,hr1,hb1⟩;have hl1:=hr1.lt;have hs1:=hb1.size;have kP:=hd0 (hr1.alloc (.cells #[.slice none 0 0] BC));have Hb1:=hd0 (hb1.alloc hs1 (.cells #[.slice none 0 0] BC));have sO:Hid (Bk (w1.alloc (.cells #[.slice none 0 0] BC)) w1.heap.size BC #[.slice none 0 0]):=Bk.new _ _ _;clear hr1 hb1;go_wp2_with fail
  refine(hns.out _ _ (by exact kP.out) (by exact Hb1.out)).mono ?_;rintro e w2 ⟨v,rfl,A4,c4,rfl,fJ,hr4,hg4⟩;have hk2:Bk w2 w1.heap.size BC #[.slice none 0 0]:=Bk.kept2 hg4 sO.out (by omega);have HS:Hid (al9 w w.heap.size p w1.heap.size er0 nums (.slice A4 (n - 1) c4) w2):=⟨[],nums,A4,n - 1,c4,none,0,0,rfl,rfl,rfl,ag3.out,hnl.out.symm,vW fJ,jl fJ,World.ownsRow_nil _ _ _ _,rfl,hk2,hr4,aZ Hb1.out hg4 (af _)⟩
  clear fJ hr4 hg4 hk2 kP Hb1 sO hsub hns;go_wp2_with fail
  go_loopw [7] (fun v wr=>al9 w w.heap.size p w1.heap.size er0 nums v wr) (fun v _=>match v with| .slice _ k _=>k|_=>0)
  case atStart=>exact HS.out
  case round=>
   obtain⟨A5,m,c5,rfl,⟨rfl,At,kt,ct,h7,h8,h9,h10,h11⟩|⟨b5,o5,x,y,z,At,kt,ct,xs,rfl,hb5,z0,z1,z2,hm,h7,h8,h9,h11,hnx⟩⟩:=al9.open hrel hs1
   ·have aJ:=HP.out.below h11;have xK:wr.cell? ⟨p,6,none⟩=some (.slice A0 (rv 5).n c0):=((aj h11).1 _ _ hpb).trans kp;have vG:wr.cell? ⟨w1.heap.size,0,none⟩=some (.slice At kt ct):=h9.cell 0;have zp:p<wr.heap.size:=aJ.par.lt;have zc:w1.heap.size<wr.heap.size:=h9.lt;have hown:=aJ.live.own 5 (by decide);rw[hv] at hown;obtain⟨A6,c6,w9,hrun,aS,ax,bi⟩:=iy NP 29 wr Bd _ c0 A0 _ #[.slice At kt ct] rfl hown (by simp[Value.oneCell']) (by omega) aJ.size;rw[<-hv] at ax bi;have bP:Bk w9 p jy (dW s rv gm cm):=(aJ.row (i:=5) (by decide) (r:=⟨.slice A6 ((rv 5).n+1) c6,_,_⟩) ax aS bi).1;have jJ:=Bk.grown h10 ax (aJ.live.own 5 (by decide)) (by decide);have x9:w9.cell? ⟨p,6,none⟩=some (rv 5).v:=bP.cell 6;have y9:=bP.frozen 6;have z9:w9.cell? ⟨w.heap.size,1,none⟩=some (.int .i64 er0):=jJ.cell 1;have hel:akU wr (Fz wr rv) [.slice At kt ct] ⟨dJ nums⟩:=by rw[h8] at h7 ⊢;exact⟨At,ct,rfl,Sl.aly h7 (abe _ _ _ hI.out) (HP.out.fresh h7 (af _) (by decide)) (by decide)⟩
    have bK:=hd0 (PSt.amG (m:=1) (K':=K+n) aJ ax aS bi (ys:=[⟨dJ nums⟩]) rfl (Fl.one (R:=akU) hel rfl) (by omega));have iD:=hd0 ((h11.mono hB).trans (aJ.alD (i:=5) (by decide) ax 6 (.slice A6 ((rv 5).n+1) c6) aJ.size));have HQ:=hd0 (KQ.below (cm:=cm) h11);clear hown aS ax bi bP jJ aJ hel h7 h9 h10 h11 HS hrel h8;go_wp2_with fail
    go_region
    all_goals
     go_wp2;go_ret
     exact akO.fin HR.out iD.out (HQ.out.trans bK.out.2) bK.out.1
   have vG:wr.cell? ⟨w1.heap.size,0,none⟩=some (.slice At kt ct):=h9.cell 0;have zc:w1.heap.size<wr.heap.size:=h9.lt;have hkt:=hnl.out;obtain⟨A6,c6,w9,hrun,aS,ax,bi⟩:=iy Yo 102 wr w.heap.size _ ct At _ #[.int .i64 x,.int .i64 y,.int .i64 z] rfl h7 (by simp[Value.oneCell']) (by omega) (by omega);have dB:=Bk.grown h9 ax h7 (by decide);have x9:w9.cell? ⟨w1.heap.size,0,none⟩=some (.slice At kt ct):=dB.cell 0;have y9:=dB.frozen 0;have Hnx:=hd0 (hnx _ _ _ aS ax);have hsl:=QY Tryz.underlying22 acd (some ⟨b5,o5,none⟩) m c5 3 3 rfl hm;clear aS ax bi h7 h9 h11 HS hrel h8 hnx dB hkt;go_wp2_with fail
   go_region
   all_goals
    go_wp2;go_roundw
    case rel=>exact Hnx.out
    case measure=>simp;omega
 have HR:Hid (qW s l= .error 22):=by show _=_;unfold qW;rw[if_pos h3]
 have er:(((n:Int) - 1).tmod 3 !=0)=true:=by rw[show(n:Int) - 1=(l.length:Nat) by omega];rw[Int.tmod_eq_emod_of_nonneg (by omega)];simp;omega
 have AU:(((n:Int) - 1) % 3 !=0)=true:=by rw[show(n:Int) - 1=(l.length:Nat) by omega];simp;omega
 clear hP hL hT hc h3 hn;go_enter Tryz.func75,Tryz.ntmps75
 go_wp2;go_ret
 exact akO.bad HR.out (ant _ _)
end
section
open Go.RowKit
attribute [-go_sem] Builtin.append_
theorem Ir (w:World)(Bd p gm cm:Nat)(gl:Gl)(s:PS)(rv:Rows)(K:Nat)(A:Option Addr)(n c:Nat)(ws:List P3)(t:B)(l:List B)(hP:PSt w Bd p gm cm gl s rv K)(hL:alg w A n ws)(hT:ag ws=t::l)(hK:K<=1000000000)(hc:n<=c){init:List akN}{g:akN}(hs:s.f.akJ=init++[g]){G n0 c9 q:Nat}(h0:(rv 0).v= .slice (some ⟨G,0,none⟩) n0 c9)(hq:q=init.length*9):
  Calls Tryz.prog 81 #[.pointer (some ⟨p,0,none⟩),.slice A n c,.pointer (some ⟨G,q,none⟩)] w (akO w Bd p gm cm gl (K+n) (jG s l)):=by
 have hn:n=l.length+1:=by rw[<-hL.length];exact dF hT
 have hB:=hP.size;have hnn:=hL.few;by_cases hle:l=[]
 ·have HR:Hid (jG s l= .error 22):=by
   show _=_;unfold jG;rw[if_neg (xy hs),if_pos (.inl hle)]
  have hl0:l.length=0:=by rw[hle];rfl
  have e1:((n:Int)<2):=by omega
  clear hP hL hT hn hs h0 hq hle hl0;go_enter Tryz.func81,Tryz.ntmps81
  go_wp2;go_ret
  exact akO.bad HR.out (ant _ _)
 have hl1:1<=l.length:=by
  cases l with
  |nil=>exact absurd rfl hle
  |cons a b=>simp
 have hn2:2<=n:=by omega
 have e2n:¬((n:Int)<2):=by omega
 obtain⟨A',hsub,hrd,hlen⟩:=hL.sub hc 1 1 rfl (by omega);have nX:=hd0 (OG w A' (n - 1) (c - 1) (ws.drop 1) hrd hlen (by omega));have hall:(ws.drop 1).all (fun x=>lL x.2.2)=l.all lL:=by rw[zX,jO hT]
 rw[hall] at nX;cases hok:l.all lL with
 |false=>
  rw[hok] at nX;have HR:Hid (jG s l= .error 22):=by show _=_;unfold jG;rw[if_neg (xy hs),if_pos (.inr hok)]
  clear hok hall hP hL hT hrd hlen hn hs h0 hq hle;go_enter Tryz.func81,Tryz.ntmps81
  go_wp2_with (go_at_call 130;refine nX.out.mono ?_;rintro e w1 ⟨rfl,hb1⟩)
  go_ret
  exact akO.bad HR.out (hb1.mono hB)
 |true=>
  rw[hok] at nX;have HP:=hd0 hP;obtain⟨G',c9',ci,gv,-,-,hGb,ku,AX,uP⟩:=hP.alC hs;obtain⟨rfl,hn0,rfl⟩:G'=G/\init.length+1=n0/\c9'=c9:=by rw[gv] at h0;simpa using h0
  have hpb:G'<w.heap.size:=hGb;obtain⟨A0,c0,hv⟩:=hP.slice (i:=8) (by decide);have kp:w.cell? ⟨G',q+3,none⟩=some (rv 8).v:=by rw[hq];exact ku 3 (by decide)
  rw[hv] at kp;have hfew:=hP.few 8 (by decide);have HR:Hid (jG s l=fin (l.foldl xZ 0) {s with f:= {s.f with akJ:=init++[{g with points:=g.points++l.map qR,ends:=g.ends++[((g.points.length+l.length:Nat):Int) - 1]}]}}):=by show _=_;unfold jG;rw[if_neg (xy hs),if_neg (by rw[hok];simp[hle]),uT s _ hs]
  have hpl:g.points.length+l.length<=K+n:=by
   have h5:(rv 8).n=g.points.length:=by
    rcases hP.fnt.gly.2 with⟨e,_⟩|⟨init',g',ci,e1,-,-,-,h5,-⟩
    ·rw[hs] at e;simp at e
    rw[hs] at e1;obtain⟨rfl,e1⟩:=List.append_inj' e1 rfl;obtain rfl:g=g':=by simpa using e1
    exact h5.1
   have:=hP.few 8 (by decide);omega
  have hpn:Hid ((g.points++l.map qR).length=g.points.length+l.length):=by show _=_;simp
  have Hs:=hd0 hs;have Hq:=hd0 hq;have H0:=hd0 h0;have vk:=hd0 uP;have hns:=hd0 (fun w1 rb (hr:Rdr w1 rb p 0) (hb:Below w.heap.size w w1) (dB:w.heap.size<=rb)=>VX w1 rb p 0 A' (n - 1) (c - 1) (ws.drop 1) hr (hrd.below hb) hlen (by omega));rw[jO hT] at hns;have hll:l.length=n - 1:=by omega
  have hfl:=hd0 (fun(w:World) S=>afY w S (l.map qR) (abS l));have hlm:Hid (n - 1=(l.map qR).length):=by show _=_;simp[hll]
  have hone:=hd0 (abP (l.map qR));have acB:n - 1<=n:=by omega
  have hn1:1<=n:=by omega
  clear hP hL hT hrd hlen hll hn hall hok hle hs h0 hq gv ku AX uP hn0;go_enter Tryz.func81,Tryz.ntmps81
  go_wp2_with (go_at_call 130;refine nX.out.mono ?_;rintro e w0 ⟨rfl,hb0⟩)
  go_wp2_with fail
  refine(gy w0 p).mono ?_;rintro e w1 ⟨rfl,hr1,CJ⟩;have hb1:Below w.heap.size w w1:=hb0.trans (CJ.mono hb0.size);have k1:w1.cell? ⟨G',q+3,none⟩=some (.slice A0 (rv 8).n c0):=((aj hb1).1 _ _ hpb).trans kp;have k1d:w1.drew.cell? ⟨G',q+3,none⟩=some (.slice A0 (rv 8).n c0):=k1;have hz0:=hb0.size;have hz1:=hb1.size;have hlr:=hr1.lt;have kP:=hd0 hr1;have Hb1:=hd0 hb1;clear hr1 hb1 hb0 CJ;go_wp2_with fail
  go_region_with (go_at_call 131;refine(hns.out _ _ (by exact kP.out) (by exact Hb1.out.drew) hz0).mono ?_;rintro e w2 ⟨v,rfl,A4,c4,rfl,fJ,hr4,hg4⟩;have hb2:=aZ Hb1.out.drew hg4 hz0;have aJ:=HP.out.below hb2;have hown:=aJ.live.own 8 (by decide);rw[hv] at hown;have BX:=(jl fJ).rd;obtain⟨A5,c5,w9,hrun,aS,ax,bi⟩:=Gf Z8 51 w2 Bd _ c0 A0 _ _ A4 (n - 1) c4 _ hown BX hone.out (by omega) aJ.size;have k2:w2.cell? ⟨G',q+3,none⟩=some (.slice A0 (rv 8).n c0):=((aj hb2).1 _ _ hpb).trans kp;rw[<-hv] at ax bi;obtain⟨JG,bP,tK⟩:∃cur,Bk w9 G' 59 cur/\cur[q+3]? =some (rv 8).v:=(by obtain⟨cur,dB⟩:=vk.out;exact⟨cur,Bk.grown (dB.keep (hb2.block G' hpb)) ax (aJ.live.own 8 (by decide)) (by decide),by rw[<-dB.cell,kp,hv]⟩);have jJ:=Bk.grown hr4 ax (aJ.live.own 8 (by decide)) (by decide);have x9:w9.cell? ⟨G',q+3,none⟩=some (rv 8).v:=(bP.cell _).trans tK;have y9:=bP.frozen (q+3);have z9:w9.cell? ⟨w0.heap.size,1,none⟩=some (.int .i64 (l.foldl xZ 0)):=jJ.cell 1;have Hr9:=hd0 jJ;have bK:=hd0 (PSt.amK (m:=n - 1) (K':=K+(n - 1)) aJ Hs.out H0.out ax aS bi hlm.out (hfl.out _ _) (by omega));rw[<-Hq.out] at bK;have iD:=hd0 (hb2.mono hB);have HQ:=hd0 (KQ.below (cm:=cm) hb2);clear hown aS ax bi bP jJ aJ hb2 fJ hr4 hg4 BX)
  all_goals
   obtain⟨Dn,vw,HQ5,NG,hv5⟩:=bK.out;obtain⟨W5,oq⟩:∃W5,w9.setCell ⟨G',q+3,none⟩ (.slice A5 ((rv 8).n+(n - 1)) c5)=W5:=⟨_,rfl⟩
   rw[oq] at vw HQ5 NG ⊢;have nY:Rdr W5 w0.heap.size p (l.foldl xZ 0):=by rw[<-oq];exact Bk.far Hr9.out (by simp;omega) _
   have UI:=hv5.trans H0.out;obtain⟨G2,c2,ci2,gv2,-,-,hG2,MR,ahH,adu⟩:=vw.alC (init:=init) rfl;obtain⟨rfl,-,rfl⟩:G2=G'/\init.length+1=n0/\c2=c9':=by rw[gv2] at UI;simpa using UI
   obtain⟨A8,c8,hv8⟩:=vw.slice (i:=8) (by decide);obtain⟨A9,c90,JW⟩:=vw.slice (i:=9) (by decide);have q8:W5.cell? ⟨G2,q+3,none⟩=some (Dn 8).v:=by rw[Hq.out];exact MR 3 (by decide)
   have q9:W5.cell? ⟨G2,q+3+1,none⟩=some (Dn 9).v:=by rw[Hq.out];exact MR 4 (by decide)
   rw[hv8] at q8;rw[JW] at q9;have Ku:(Dn 8).n=g.points.length+l.length:=by
    rcases vw.fnt.gly.2 with⟨e,_⟩|⟨init',g',ci,e1,-,-,-,h5,-⟩
    ·simp at e
    obtain⟨rfl,e1⟩:=List.append_inj' e1 rfl;obtain rfl:_=g':=by simpa using e1
    exact h5.1.trans hpn.out
   have hG5:G2<W5.heap.size:=hG2;have Uc:=vw.live.own 9 (by decide);have aiz:=vw.few 9 (by decide);rw[JW] at Uc;have hI:I64 (((Dn 8).n:Int) - 1):=⟨by omega,by omega⟩
   obtain⟨A6,c6,w10,hrun6,LV,rE,YV⟩:=iy iL 22 W5 Bd _ c90 A9 _ #[.int .i64 (((Dn 8).n:Int) - 1)] rfl Uc (by simp[Value.oneCell']) (by omega) vw.size;rw[<-JW] at rE YV;obtain⟨aiw,JB,hq10⟩:∃cur,Bk w10 G2 59 cur/\cur[q+3+1]? =some (Dn 9).v:=by obtain⟨cur,dB⟩:=adu;exact⟨cur,Bk.grown dB rE (vw.live.own 9 (by decide)) (by decide),by rw[<-dB.cell,q9,JW]⟩
   have aeS:=Bk.grown nY rE (vw.live.own 9 (by decide)) (by decide);have x10:w10.cell? ⟨G2,q+3+1,none⟩=some (Dn 9).v:=(JB.cell _).trans hq10;have y10:=JB.frozen (q+3+1);have z10:w10.cell? ⟨w0.heap.size,1,none⟩=some (.int .i64 (l.foldl xZ 0)):=aeS.cell 1;have Gu:=PSt.amD (m:=1) (K':=K+n) vw (init:=init) rfl UI rE LV YV (ys:=[((Dn 8).n:Int) - 1]) rfl (Fl.one (R:=akL) ⟨rfl,hI⟩ rfl) (by omega);rw[<-Hq.out] at Gu;have Gu:=hd0 Gu;have hlen1:1<=(Dn 8).n:=by omega
   have hlen2:(Dn 8).n<=100000000000:=by omega
   have Hm8:=hd0 Ku;have afs:=hd0 (iD.out.trans NG);have ah6:=hd0 (HQ.out.trans HQ5);clear hv5 UI gv2 MR ahH adu Uc LV rE YV JB hq10 aeS nY vw NG HQ5 Ku oq bK hv8 JW;generalize (Dn 8).n=m8 at*
   go_wp2_with fail
   go_region
   all_goals
    go_wp2;go_ret
    obtain⟨rv',g1,g2,g3,-⟩:=Gu.out;refine akO.fin ?_ (afs.out.trans g3) (ah6.out.trans g2) g1;rw[HR.out,Hm8.out]
end
section
open Go.RowKit Go.Shelf
theorem Fl.flat {α:Type}{R:Rel α}{size:Nat}(f:α->List Value)(hf:∀x,(f x).length=size)(hR:∀w S cs x,R w S cs x->cs=f x){w:World}{S:Bs}{cells:List Value}{xs:List α}(h:Fl R size w S cells xs):cells=xs.flatMap f:=by
 induction xs generalizing cells with
 |nil=>simpa [Fl] using h.1
 |cons x xs ih=>
  have hl:=h.1;simp only[aT] at hl;obtain⟨cs,r1,r2,r3⟩:=h.2 0 x rfl;obtain rfl:=hR _ _ _ _ r1;have e1:cells.take size=f x:=by
   apply List.ext_getElem?;intro i;by_cases hi:i<size
   ·have:i<(f x).length:=by rw[hf];exact hi
    have h2:=r3 i _ (anw this);rw[anY,if_pos hi];rw[Nat.zero_mul,aoc] at h2;rw[h2,anw this]
   rw[anU (by simp;omega),anU (by rw[hf];omega)]
  have e2:cells.drop size=xs.flatMap f:=by apply ih;refine⟨by simp[hl,aom],fun k y hy=> ?_⟩;obtain⟨cs,s1,s2,s3⟩:=h.2 (k+1) y (by simpa using hy);refine⟨cs,s1,s2,fun j u hu=> ?_⟩;rw[List.getElem?_drop,show size+(k*size+j)=(k+1)*size+j by rw[aom];omega];exact s3 j u hu
  rw[anM,<-e1,<-e2,an1]
def xH (p:Pt):List Value:=[.int .i64 p.x,.int .i64 p.y,.bool p.on]
def iK (l:List Pt):List Value:=l.flatMap xH
theorem LU (l:List Pt):∀u∈iK l,u.oneCell'=true:=by intro u hu;simp only[iK,an8] at hu;obtain⟨p,_,hp⟩:=hu;simp only[xH,anG,an4,or_false] at hp;rcases hp with rfl|rfl|rfl<;>rfl
theorem Sl.rd {α:Type}{R:Rel α}{size:Nat}(f:α->List Value)(hf:∀x,(f x).length=size)(hR:∀w S cs x,R w S cs x->cs=f x){w:World}{A:Option Addr}{xs:List α}(h:Sl R size w (FT w) A xs):Rd w w.heap.size A xs.length size (xs.flatMap f):=by
 obtain⟨cells,h1,h2⟩:=h;have e:=h1.flat f hf hR;subst e;exact⟨h1.1,fun h0=>by
  obtain⟨b,o,e,hb,hc⟩:=h2 h0;obtain⟨ob,hb1,-⟩:=hb;exact⟨b,o,e,(anx.1 hb1).1,hc⟩⟩
theorem Sl.ane {w:World}{A:Option Addr}{xs:List Pt}(h:Sl PtR 3 w (FT w) A xs):Rd w w.heap.size A xs.length 3 (iK xs):=h.rd xH (fun _=>rfl) (fun _ _ _ _ h=>h.1)
theorem XB (xs:List Int):xs.flatMap (fun z=>[Value.int .i64 z])=aH xs:=by
 induction xs with
 |nil=>rfl
 |cons x xs ih=>rw[anM,ih];rfl
theorem Sl.am4 {w:World}{A:Option Addr}{xs:List Int}(h:Sl akL 1 w (FT w) A xs):Rd w w.heap.size A xs.length 1 (aH xs):=by
 have:=h.rd (fun z=>[.int .i64 z]) (fun _=>rfl) (fun _ _ _ _ h=>h.1)
 rwa [XB] at this
theorem ahR {w:World}{A:Option Addr}{xs:List Pt}(h:Sl PtR 3 w (FT w) A xs):∀p∈xs,I64 p.x/\I64 p.y:=by intro p hp;obtain⟨k,hk⟩:=anP.1 hp;obtain⟨b,o,x,-,-,hx,-,-,-,r0,r1⟩:=h.pt (anv.1 hk).1;have:=hx.out;rw[hk] at this;cases this;exact⟨r0,r1⟩
def uZ (pts:List Pt)(f e:Nat):List Pt:=(pts.take (e+1)).drop f
theorem Zq (pts:List Pt)(k:Nat)(p:Pt)(h:pts[k]? =some p):(iK pts)[k*3]? =some (.int .i64 p.x)/\(iK pts)[k*3+1]? =some (.int .i64 p.y)/\(iK pts)[k*3+2]? =some (.bool p.on):=by
 induction pts generalizing k with
 |nil=>simp at h
 |cons q ps ih=>
  cases k with
  |zero=>simp at h;subst h;simp[iK,xH]
  |succ k=>
   have:=ih k (by simpa using h);have e:iK (q::ps)=xH q++iK ps:=rfl;simp only[e];refine⟨?_,?_,?_⟩<;>rw[anR (by simp[xH];omega)]<;>simp only[xH,aT,ln]
   ·rw[show(k+1)*3 - (0+1+1+1)=k*3 by omega];exact this.1
   ·rw[show(k+1)*3+1 - (0+1+1+1)=k*3+1 by omega];exact this.2.1
   rw[show(k+1)*3+2 - (0+1+1+1)=k*3+2 by omega];exact this.2.2
theorem ab6 {W:World}{g n:Nat}{pts:List Pt}(h:RdT W 139 (some ⟨g,0,none⟩) n 3 (iK pts))(hn:n=pts.length)(hI:∀p∈pts,I64 p.x/\I64 p.y)(f e:Nat)(hfe:f<=e)(he:e<n):Sl PtR 3 W (FT W) (some ⟨g,f*3,none⟩) (uZ pts f e):=by
 obtain⟨b,o,cur,e1,hb,hc⟩:=h.2 (by omega);simp only[anV,Addr.mk.injEq,and_true] at e1;obtain⟨rfl,rfl⟩:=e1;have key:∀k x,(uZ pts f e)[k]? =some x->pts[f+k]? =some x:=by
  intro k x hx;rw[uZ,List.getElem?_drop,anY] at hx;split at hx
  ·exact hx
  cases hx
 refine⟨iK (uZ pts f e),⟨?_,fun k x hx=> ?_⟩,fun _=>⟨g,f*3,rfl,GL hb (by decide) (by decide),fun j u hu=> ?_⟩⟩
 ·have:∀l:List Pt,(iK l).length=l.length*3:=by
   intro l;induction l with
   |nil=>rfl
   |cons x l ih=>simp only[iK,anM,la,xH,aT,ln] at ih ⊢;omega
  exact this _
 ·refine⟨xH x,⟨rfl,hI x (anC (key k x hx))⟩,rfl,fun j u hu=> ?_⟩;obtain⟨q0,q1,q2⟩:=Zq _ k x hx
  match j,hu with
  |0,hu=>simp[xH] at hu;subst hu;exact q0
  |1,hu=>simp[xH] at hu;subst hu;exact q1
  |2,hu=>simp[xH] at hu;subst hu;exact q2
 rw[Bk.cell hb];have h5:(iK pts)[f*3+j]? =some u:=by
  have e2:iK (uZ pts f e)=((iK pts).take ((e+1)*3)).drop (f*3):=by
   have a1:∀(l:List Pt) (k:Nat),iK (l.take k)=(iK l).take (k*3):=by
    intro l;induction l with
    |nil=>intro k;simp[iK]
    |cons x l ih=>
     intro k;cases k with
     |zero=>simp[iK]
     |succ k=>have:=ih k;simp only[iK,List.take_succ_cons,anM] at this ⊢;rw[this,show(k+1)*3=k*3+3 by omega];simp[xH]
   have a2:∀(l:List Pt) (k:Nat),iK (l.drop k)=(iK l).drop (k*3):=by
    intro l;induction l with
    |nil=>intro k;simp[iK]
    |cons x l ih=>
     intro k;cases k with
     |zero=>simp[iK]
     |succ k=>have:=ih k;simp only[iK,List.drop_succ_cons,anM] at this ⊢;rw[this,show(k+1)*3=k*3+3 by omega];simp[xH]
   rw[uZ,a2,a1]
  rw[e2,List.getElem?_drop,anY] at hu;split at hu
  ·exact hu
  cases hu
 have:=hc _ _ h5
 rwa [aoc] at this
theorem Pm (pts:List Pt)(f e:Nat)(h:e<pts.length):(uZ pts f e).length=e+1 - f:=by simp[uZ];omega
def vT (pts:List Pt)(x:Bf):B:=ay fU ((uZ pts x.2.1 x.2.2.1).map jq)
theorem aad (pts:List Pt)(es:List Int):∀(k f:Nat),(oh pts.length k f es).map (fun p=>uZ pts p.2.1 p.2.2)=eX pts f es:=by
 induction es with
 |nil=>intro k f;rfl
 |cons e es ih=>
  intro k f;rw[oh,eX];by_cases h:(f:Int)<=e/\e<(pts.length:Int)
  ·rw[if_pos h,if_neg (by omega),anE,ih];rfl
  rw[if_neg h,if_pos (by omega)];rfl
theorem GH (pts:List Pt)(es:List Int)(g:Nat):(GU g (oh pts.length 0 0 es)).flatMap (vT pts)=(eX pts 0 es).flatMap (fun c=>ay fU (c.map jq)):=by rw[<-aad pts es 0 0,GU,List.flatMap_map,List.flatMap_map];rfl
def tN (w W0:World)(Bd g:Nat)(fc:Nat->Value)(T:B)(W:World):Prop:=Pr W Bd g fc T/\KP W0 W/\Below Bd w W
theorem MB {W W':World}{Bd g:Nat}{fc:Nat->Value}{T:B}{row:Option Nat}(h:Pr W Bd g fc T)(hg:W.grownBy W' row)(hr:∀r,row=some r->∃o:Obj,W.heap[r]? =some o/\o.isCells=false):Pr W' Bd g fc T:=by
 obtain⟨ad,v,h1,h2,h3,h4⟩:=h;refine⟨ad,v,h1,(grownBy_keeps_cells hg hr h2 rfl).trans h2,h3,h4.kept hg ?_⟩;cases hrow:row with
 |none=>cases hv:v.ownBlock<;>simp
 |some r=>refine .inr (fun e=> ?_);obtain⟨o,ho,hc⟩:=hr r hrow;obtain⟨cur,hk⟩:=iG h4 r e;have hk2:W.heap[r]? =_:=hk;rw[hk2] at ho;cases ho;cases hc
theorem LX {W0 W W':World}{row:Option Nat}(h:KP W0 W)(hg:W.grownBy W' row)(hr:∀r,row=some r->W0.heap.size<=r):KP W0 W':=
 ⟨fun b o hb hn=>by
  have h1:=h.same b o hb hn;refine(hg.block b (anx.1 h1).1 (fun e=> ?_)).trans h1;have:=hr b e.symm;have:=(anx.1 hb).1;omega,nt h.size hg.size⟩
theorem acn {w W0:World}{Bd g B0:Nat}{fc:Nat->Value}(F:List Bf->B)(hB:W0.heap.size<=B0)(hw:Bd<=W0.heap.size):OwnFrom B0 (fun pre W=>tN w W0 Bd g fc (F pre) W):=by intro s A C row hs hg hr;obtain⟨h1,h2,h3⟩:=hs;refine⟨MB h1 hg (fun r e=>(hr r e).2),LX h2 hg (fun r e=>nt hB (hr r e).1),?_⟩;exact h3.grown hg (nt hw h2.size) (fun r e=>nt (nt hw hB) (hr r e).1)
end
section
open Go.RowKit
attribute [-go_sem] Builtin.append_
theorem zW (L:List B)(t:B)(h:∀(j:Nat) (s:B),L[j]? =some s->s≠t):jc L t=0:=by rw[jc,if_neg];intro hm;obtain⟨j,hj⟩:=anP.1 hm;exact h j t hj rfl
theorem FY (L:List B)(t:B)(k:Nat)(h:L[k]? =some t)(hl:∀(j:Nat) (s:B),j<k->L[j]? =some s->s≠t):jc L t=(k:Int)+1:=by
 rw[jc,if_pos (anC h)];have:L.findIdx (· ==t)=k:=by rw[List.findIdx_eq (anv.1 h).1];obtain⟨hk,hg⟩:=anv.1 h;refine⟨by simp[hg],fun j hj=> ?_⟩;have:=hl j L[j] hj (anw (by omega));simpa using this
 rw[this]
theorem qQ:aG.length=8:=by decide
theorem EP (k:Nat)(s:B)(h:aG[k]? =some s)(w:World):(Instr.index 206 (.agg (strs aG).toArray) (.int .i64 (k:Int))).run Tryz.prog w= .ok (.string ⟨s.toArray⟩) w:=by
 have hk:k<8:=by have:=(anv.1 h).1;rw[qQ] at this;exact this
 have hs:=strs_get h;have hk2:(k:Int)<8:=by omega
 have hk3:(0:Int)<=k:=by omega
 simp[Instr.index,go_sem,hk2,hk3,hs];omega
theorem GM:(strs aG).toArray.size=8:=by simp[xe,qQ]
theorem TA (s:PS)(l:List B)(h:l.length≠1)(h3:∀a,l≠[a,eU]):iW s l= .error 22:=by
 unfold iW;split
 ·rename_i k r;rw[if_neg];rintro(e|e)
  ·subst e;exact h rfl
  subst e;exact h3 _ rfl
 rfl
theorem EC (s:PS)(t1:B)(r:List B)(hr:r=[]\/r=[eU]):iW s (t1::r)=if jc aG t1=0 then .error 22 else .ok {s with f:= {s.f with akK:=s.f.akK++[⟨jc aG t1,!r.isEmpty,[]⟩]}} :=by show(if r=[]\/r=[eU] then _ else _)=_;rw[if_pos hr]
theorem QA (w:World)(Bd p gm cm:Nat)(gl:Gl)(s:PS)(rv:Rows)(K:Nat)(A:Option Addr)(n c:Nat)(ws:List P3)(t t1:B)(hP:PSt w Bd p gm cm gl s rv K)(hL:alg w A n ws)(hT:ag ws=t::[t1])(hK:K<=10000000000)(jH:ali w):
  Calls Tryz.prog 87 #[.pointer (some ⟨p,0,none⟩),.slice A n c] w (akO w Bd p gm cm gl (K+n) (iW s [t1])):=by
 have hn:n=2:=by rw[<-hL.length];exact dF hT
 have hB:=hP.size;obtain⟨b,o,rfl,hb,q1,hz1⟩:=hL.word (k:=1) (t:=t1) (by rw[hT];rfl) (d:=3) rfl;subst hn;have HP:=hd0 hP;have hpb:p<w.heap.size:=hP.par.lt;obtain⟨A0,c0,hv⟩:=hP.slice (i:=2) (by decide);have kp:w.cell? ⟨p,3,none⟩=some (rv 2).v:=hP.par.cell 3;rw[hv] at kp;have hfew:=hP.few 2 (by decide);have HR:=hd0 (EC s t1 [] (by simp));obtain⟨ty,fz,hbt⟩:=jH.kinds;have hix:=hd0 EP;have hsz:=GM;have hpost:Hid (∀k:Nat,(∀j s,j<k->aG[j]? =some s->s≠t1)->((aG[k]? =some t1->jc aG t1=(k:Int)+1)/\(8<=k->jc aG t1=0))):=fun k hl=>by
  refine⟨fun h=>FY _ t1 k h hl,fun hk=>zW _ t1 fun j s hj=>hl j s ?_ hj⟩;have:=(anv.1 hj).1;rw[qQ] at this;omega
 generalize (strs aG).toArray=cs at*
 have MN:=hd0 (show(Tryz.prog.info? 206).map (·.size)=some cs.size by rw[hsz];kernel_rfl);clear hsz hP hL hT hz1 jH;go_enter Tryz.func87,Tryz.ntmps87
 go_wp2_with (refine wpList_load_row rfl 206 (.global 3) rfl 3 rfl ty cs fz _ hbt Tryz.underlying206 rfl MN.out ?_)
 go_loop [26] (fun i=>∃k:Nat,k<=8/\i= .int .i64 k/\Hid (∀j s,j<k->aG[j]? =some s->s≠t1)) (fun i=>8 - (intOf i).toNat)
 case atStart=>exact⟨0,by omega,rfl,fun j s hj=>by omega⟩
 case round=>
  obtain⟨k,hk,rfl,hl⟩:=hrel;by_cases hlt:k<8
  ·obtain⟨nm,hs⟩:∃nm,aG[k]? =some nm:=⟨_,anw (by rw[qQ];exact hlt)⟩
   have hrun:=hix.out k nm hs;by_cases he:nm=t1
   ·have HR2:Hid (iW s [t1]= .ok {s with f:= {s.f with akK:=s.f.akK++[⟨(k:Int)+1,false,[]⟩]}}):=by
     show _=_;have:=(hpost.out k hl.out).1 (by rw[hs,he]);rw[HR.out,this,if_neg (by omega)];rfl
    have e1:(nm==t1)=true:=by simp[he]
    have aJ:=HP.out;have hown:=aJ.live.own 2 (by decide);rw[hv] at hown;obtain⟨A5,c5,w9,afN,aS,ax,bi⟩:=xh Oo 26 w Bd _ c0 A0 _ #[.int .i64 ((k:Int)+1),.bool false,.slice none 0 0] rfl hown (by simp[Value.oneCell']) (by omega) aJ.size;rw[<-hv] at ax bi;have bP:Bk w9 p jy (dW s rv gm cm):=(aJ.row (i:=2) (by decide) (r:=⟨.slice A5 ((rv 2).n+1) c5,_,_⟩) ax aS bi).1;have x9:w9.cell? ⟨p,3,none⟩=some (rv 2).v:=bP.cell 3;have y9:=bP.frozen 3;have bK:=hd0 (aJ.ame (kd:=(k:Int)+1) (ig:=false) ax aS bi ⟨by omega,by omega⟩ (K':=K+2) (by omega));have iD:=hd0 (aJ.alD (i:=2) (by decide) ax 3 (.slice A5 ((rv 2).n+1) c5) aJ.size);clear hs he hl hown aS ax bi bP aJ;go_wp2;go_ret
    obtain⟨rv',g1,g2⟩:=bK.out;exact akO.good HR2.out iD.out g2 g1
   have hnx:Hid (∀j s,j<k+1->aG[j]? =some s->s≠t1):=fun j s' hj hs'=>by
    by_cases hjk:j=k
    ·subst hjk;rw[hs] at hs';cases hs';exact he
    exact hl.out j s' (by omega) hs'
   have e1:(nm==t1)=false:=by simpa using he
   clear hs he;go_wp2
   go_round
   case rel=>exact⟨k+1,by omega,by simp,hnx⟩
   case measure=>simp[intOf];omega
  have HR2:Hid (iW s [t1]= .error 22):=by show _=_;rw[HR.out,if_pos ((hpost.out k hl.out).2 (by omega))]
  go_wp2;go_ret
  exact akO.bad HR2.out (ant _ _)
theorem PX (w:World)(Bd p gm cm:Nat)(gl:Gl)(s:PS)(rv:Rows)(K:Nat)(A:Option Addr)(n c:Nat)(ws:List P3)(t t1:B)(hP:PSt w Bd p gm cm gl s rv K)(hL:alg w A n ws)(hT:ag ws=t::[t1,eU])(hK:K<=10000000000)(jH:ali w):
  Calls Tryz.prog 87 #[.pointer (some ⟨p,0,none⟩),.slice A n c] w (akO w Bd p gm cm gl (K+n) (iW s [t1,eU])):=by
 have hn:n=3:=by rw[<-hL.length];exact dF hT
 have hB:=hP.size;obtain⟨b,o,rfl,hb,q1,hz1⟩:=hL.word (k:=1) (t:=t1) (by rw[hT];rfl) (d:=3) rfl;obtain⟨b',o',e',-,q2,hz2⟩:=hL.word (k:=2) (t:=eU) (by rw[hT];rfl) (d:=6) rfl;obtain⟨rfl,rfl⟩:b=b'/\o=o':=by simpa using e'
 clear e' hz2;subst hn;have HP:=hd0 hP;have hpb:p<w.heap.size:=hP.par.lt;obtain⟨A0,c0,hv⟩:=hP.slice (i:=2) (by decide);have kp:w.cell? ⟨p,3,none⟩=some (rv 2).v:=hP.par.cell 3;rw[hv] at kp;have hfew:=hP.few 2 (by decide);have HR:=hd0 (EC s t1 [eU] (by simp));obtain⟨ty,fz,hbt⟩:=jH.kinds;have hix:=hd0 EP;have hsz:=GM;have hpost:Hid (∀k:Nat,(∀j s,j<k->aG[j]? =some s->s≠t1)->((aG[k]? =some t1->jc aG t1=(k:Int)+1)/\(8<=k->jc aG t1=0))):=fun k hl=>by
  refine⟨fun h=>FY _ t1 k h hl,fun hk=>zW _ t1 fun j s hj=>hl j s ?_ hj⟩;have:=(anv.1 hj).1;rw[qQ] at this;omega
 generalize (strs aG).toArray=cs at*
 have MN:=hd0 (show(Tryz.prog.info? 206).map (·.size)=some cs.size by rw[hsz];kernel_rfl);clear hsz hP hL hT hz1 jH;go_enter Tryz.func87,Tryz.ntmps87
 go_wp2_with (refine wpList_load_row rfl 206 (.global 3) rfl 3 rfl ty cs fz _ hbt Tryz.underlying206 rfl MN.out ?_)
 go_loop [26] (fun i=>∃k:Nat,k<=8/\i= .int .i64 k/\Hid (∀j s,j<k->aG[j]? =some s->s≠t1)) (fun i=>8 - (intOf i).toNat)
 case atStart=>exact⟨0,by omega,rfl,fun j s hj=>by omega⟩
 case round=>
  obtain⟨k,hk,rfl,hl⟩:=hrel;by_cases hlt:k<8
  ·obtain⟨nm,hs⟩:∃nm,aG[k]? =some nm:=⟨_,anw (by rw[qQ];exact hlt)⟩
   have hrun:=hix.out k nm hs;by_cases he:nm=t1
   ·have HR2:Hid (iW s [t1,eU]= .ok {s with f:= {s.f with akK:=s.f.akK++[⟨(k:Int)+1,true,[]⟩]}}):=by
     show _=_;have:=(hpost.out k hl.out).1 (by rw[hs,he]);rw[HR.out,this,if_neg (by omega)];rfl
    have e1:(nm==t1)=true:=by simp[he]
    have aJ:=HP.out;have hown:=aJ.live.own 2 (by decide);rw[hv] at hown;obtain⟨A5,c5,w9,afN,aS,ax,bi⟩:=xh Oo 26 w Bd _ c0 A0 _ #[.int .i64 ((k:Int)+1),.bool true,.slice none 0 0] rfl hown (by simp[Value.oneCell']) (by omega) aJ.size;rw[<-hv] at ax bi;have bP:Bk w9 p jy (dW s rv gm cm):=(aJ.row (i:=2) (by decide) (r:=⟨.slice A5 ((rv 2).n+1) c5,_,_⟩) ax aS bi).1;have x9:w9.cell? ⟨p,3,none⟩=some (rv 2).v:=bP.cell 3;have y9:=bP.frozen 3;have bK:=hd0 (aJ.ame (kd:=(k:Int)+1) (ig:=true) ax aS bi ⟨by omega,by omega⟩ (K':=K+3) (by omega));have iD:=hd0 (aJ.alD (i:=2) (by decide) ax 3 (.slice A5 ((rv 2).n+1) c5) aJ.size);clear hs he hl hown aS ax bi bP aJ;go_wp2;go_ret
    obtain⟨rv',g1,g2⟩:=bK.out;exact akO.good HR2.out iD.out g2 g1
   have hnx:Hid (∀j s,j<k+1->aG[j]? =some s->s≠t1):=fun j s' hj hs'=>by
    by_cases hjk:j=k
    ·subst hjk;rw[hs] at hs';cases hs';exact he
    exact hl.out j s' (by omega) hs'
   have e1:(nm==t1)=false:=by simpa using he
   clear hs he;go_wp2
   go_round
   case rel=>exact⟨k+1,by omega,by simp,hnx⟩
   case measure=>simp[intOf];omega
  have HR2:Hid (iW s [t1,eU]= .error 22):=by show _=_;rw[HR.out,if_pos ((hpost.out k hl.out).2 (by omega))]
  go_wp2;go_ret
  exact akO.bad HR2.out (ant _ _)
theorem Qv (w:World)(Bd p gm cm:Nat)(gl:Gl)(s:PS)(rv:Rows)(K:Nat)(A:Option Addr)(n c:Nat)(ws:List P3)(t:B)(l:List B)(hP:PSt w Bd p gm cm gl s rv K)(hL:alg w A n ws)(hT:ag ws=t::l)(h2:l.length≠1)(h3:∀a,l≠[a,eU]):
  Calls Tryz.prog 87 #[.pointer (some ⟨p,0,none⟩),.slice A n c] w (akO w Bd p gm cm gl (K+n) (iW s l)):=by
 have hn:n=l.length+1:=by rw[<-hL.length];exact dF hT
 have HR:=hd0 (TA s l h2 h3);by_cases h4:l.length=2
 ·obtain⟨t1,t3,rfl⟩:∃t1 t3,l=[t1,t3]:=by
   match l,h4 with
   |[a,b],_=>exact⟨a,b,rfl⟩
  obtain⟨b,o,rfl,hb,q3,hz3⟩:=hL.word (k:=2) (t:=t3) (by rw[hT];rfl) (d:=6) rfl;have h5:t3≠eU:=fun e=>h3 t1 (by rw[e])
  have e3:(t3==[105,103,110,111,114,101])=false:=by rw[beq_eq_false_iff_ne];exact h5
  simp only[aT,ln] at hn;subst hn;clear hP hL hT h2 h3 h4 h5 hz3;go_enter Tryz.func87,Tryz.ntmps87
  go_wp2;go_ret
  exact akO.bad HR.out (ant _ _)
 have e4:((n:Int)==3)=false:=by simp;omega
 have e3:((n:Int)==2)=false:=by simp;omega
 have e5:((n:Int) !=2)=true:=by simp;omega
 clear hP hL hT h2 h3 h4 hn;go_enter Tryz.func87,Tryz.ntmps87
 go_wp2;go_ret
 exact akO.bad HR.out (ant _ _)
theorem Lc (w:World)(Bd p gm cm:Nat)(gl:Gl)(s:PS)(rv:Rows)(K:Nat)(A:Option Addr)(n c:Nat)(ws:List P3)(t:B)(l:List B)(hP:PSt w Bd p gm cm gl s rv K)(hL:alg w A n ws)(hT:ag ws=t::l)(hK:K<=10000000000)(jH:ali w):
  Calls Tryz.prog 87 #[.pointer (some ⟨p,0,none⟩),.slice A n c] w (akO w Bd p gm cm gl (K+n) (iW s l)):=by
 by_cases h2:l.length=1
 ·obtain⟨t1,rfl⟩:∃t1,l=[t1]:=by
   match l,h2 with
   |[a],_=>exact⟨a,rfl⟩
  exact QA w Bd p gm cm gl s rv K A n c ws t t1 hP hL hT hK jH
 by_cases h3:∃a,l=[a,eU]
 ·obtain⟨t1,rfl⟩:=h3;exact PX w Bd p gm cm gl s rv K A n c ws t t1 hP hL hT hK jH
 exact Qv w Bd p gm cm gl s rv K A n c ws t l hP hL hT h2 (fun a e=>h3 ⟨a,e⟩)
end
end Go.Proofs.YtkijckccfookeaaGreatDoor
