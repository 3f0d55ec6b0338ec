/- Lemmas. -/
import Derived.Test.YtkijckccfookeaaDoorW06
set_option linter.unusedVariables false
set_option linter.unusedSimpArgs false
set_option maxRecDepth 100000
set_option maxHeartbeats 32000000
namespace Go.Proofs.YtkijckccfookeaaDoor
section
open Go.RowKit
theorem BM:∀k:Fin 8,∃s,aK[k.val]? =some s/\mi aK s=(k.val:Int)+1/\aP s=true:=by decide+kernel
theorem BL:∀k:Fin 4,∃s,anchorNames[k.val]? =some s/\mi anchorNames s=(k.val:Int)+1/\aP s=true:=by decide+kernel
theorem wI (n:Int)(h1:1<=n)(h2:n<=8):mi aK (pick aK n)=n/\aP (pick aK n)=true:=by
 obtain⟨s,e1,e2,e3⟩:=BM ⟨(n - 1).toNat,by omega⟩;have:pick aK n=s:=by unfold pick;rw[if_neg (by omega)];simp only at e1;rw[e1];rfl
 rw[this];simp only at e2;exact⟨by omega,e3⟩
theorem wX (n:Int)(h1:1<=n)(h2:n<=4):mi anchorNames (pick anchorNames n)=n/\aP (pick anchorNames n)=true:=by
 obtain⟨s,e1,e2,e3⟩:=BL ⟨(n - 1).toNat,by omega⟩;have:pick anchorNames n=s:=by unfold pick;rw[if_neg (by omega)];simp only at e1;rw[e1];rfl
 rw[this];simp only at e2;exact⟨by omega,e3⟩
section
variable (gl:Gl) (s:PS) (r:List B)
theorem KY:stmt gl s (dO::r)=DJ s r:=by simp[stmt]
theorem Kr:stmt gl s (iE::r)=DF s r:=by simp[stmt]
theorem EU:stmt gl s (dH::r)=vC s r:=by simp[stmt]
theorem PO:stmt gl s (fH::r)=IG s r:=by simp[stmt]
theorem J6:stmt gl s (iW::r)=DL s r:=by simp[stmt]
theorem GM:stmt gl s (bP::r)=yu gl s r:=by simp[stmt]
theorem Dp:stmt gl s (bI::r)=sN s r:=by simp[stmt]
theorem KN:stmt gl s (gW::r)=CS gl s r:=by simp[stmt]
theorem FY:stmt gl s (dV::r)=wG s r:=by simp[stmt]
theorem II:stmt gl s (gy::r)=zn s r:=by simp[stmt]
theorem L6:stmt gl s (iH::r)=DX s r:=by simp[stmt]
theorem Le:stmt gl s (kC::r)=CZ gl s r:=by simp[stmt]
theorem Ee:stmt gl s (dB::r)=uQ s r:=by simp[stmt]
theorem Kz:stmt gl s (bn::r)=xM gl s r:=by simp[stmt]
theorem CB:stmt gl s (dY::r)=sD s r:=by simp[stmt]
end
theorem uZ {gl:Gl}{gs:List Zy}(h:Z7 gl gs)(kind:Int)(r:Z8)(hr:OkR gs.length kind r):∀w∈outW gs kind r,w≠[47]/\w≠[62]/\aP w=true:=by
 have num:∀(n:Int),af n≠[47]/\af n≠[62]/\aP (af n)=true:=fun n=>⟨fun e=>by
  have:=jc n 47 (by rw[e];simp)
  revert this
  decide,fun e=>by
  have:=jc n 62 (by rw[e];simp)
  revert this
  decide,jH n⟩
 intro w hw;unfold outW at hw;split at hw
 ·rw[abv] at hw;obtain⟨n,hn,rfl⟩:=hw;have h1:=(nM h (hr.out n hn)).2;have:=vO h1;exact⟨this.2.2.1,this.2.2.2,iZ h1⟩
 split at hw
 ·rw[abv] at hw;obtain⟨c,hc,rfl⟩:=hw;have CX:(58:UInt8)∈af c.at'++58::af c.lookup:=by simp
  refine⟨fun e=> ?_,fun e=> ?_,(wV c (hr.calls c hc) 0).2.2.2⟩
  ·rw[e] at CX;revert CX;decide
  rw[e] at CX;revert CX;decide
 split at hw
 ·simp only[aa1] at hw;subst hw;exact num r.x
 simp at hw
def qM (gs:List Zy)(ws:List B)(l:List (List Int)):Prop:=(∀w∈ws,w≠[47]/\w≠[62])/\oD ws=some (l.map (fun s=>s.map (aT gs)))
theorem FK {gl:Gl}{gs:List Zy}(h:Z7 gl gs)(hn:gs.length<=1000)(s:PS)(lk:Lookup)(hl:s.f.Zu.getLast? =some lk)(hk:1<=lk.kind/\lk.kind<=8)(r:Z8)(hr:OkR gs.length lk.kind r)
  (u0 u1 u2:List B) (h0:qM gs u0 r.back) (h1:qM gs u1 r.in') (h2:qM gs u2 r.ahead):
  xM gl s (u0++[47]::u1++[47]::u2++[62]::outW gs lk.kind r)= .ok (ng s fun lk=> {lk with rules:=lk.rules++[r]}):=by
 have hi:∀l:List (List Int),(∀x∈l,Bh gs.length x)->(∀x∈l,∀n∈x,In gs.length n)/\(∀x∈l,(∀n∈x,In gs.length n)/\x.length<=1000)/\l.map setOf=l:=fun l hl=>by
  refine⟨fun x hx=>(hl x hx).2,fun x hx=>⟨(hl x hx).2,nt (Lh (hl x hx)) hn⟩,?_⟩
  conv=>rhs;rw[<-List.map_id l]
  exact List.map_congr_left (fun x hx=>yx x (hl x hx).1)
 obtain⟨a1,a2,a3⟩:=hi _ hr.back;obtain⟨b1,b2,b3⟩:=hi _ hr.in';obtain⟨c1,c2,c3⟩:=hi _ hr.ahead;have hp:uj (u0++[47]::u1++[47]::u2++[62]::outW gs lk.kind r)=some [u0,u1,u2,outW gs lk.kind r]:=Hu _ _ _ _ h0.1 h1.1 h2.1 (fun w hw=>⟨(uZ h _ r hr w hw).1,(uZ h _ r hr w hw).2.1⟩);unfold xM;simp only[hl,hp,h0.2,h1.2,h2.2,lH h s.ZO _ a2,lH h s.ZO _ b2,lH h s.ZO _ c2,aa7,a3,b3,c3];clear h0 h1 h2 hp;obtain⟨q1,q2⟩:=Lt h r.out hr.out 0;obtain⟨d1,d2,d3,-⟩:=Ed r.calls hr.calls 0;have x1:=dn r.x hr.x 0;have x2:=(bJ r.x hr.x).2;have hcases:lk.kind=1\/lk.kind=2\/lk.kind=3\/lk.kind=4\/lk.kind=5\/lk.kind=6\/lk.kind=7\/lk.kind=8:=by omega
 have hone:=hr.one;have uK:=hr.outs;have pU:=hr.noC;have pR:=hr.noX;have hin:=hr.in';cases r with
 |mk rb ri ra ro rc rx=>
 simp only at*
 rcases hcases with e|e|e|e|e|e|e|e<;>rw[e] at hone uK pU pR ⊢
 case inl=>obtain⟨t,rfl,ht⟩:=hone (by simp);have hs:=(hin t (by simp)).1;simp[jI,outW,q1,q2,qB t ro hs ht,pU,pR]
 case inr.inl=>simp[jI,outW,q1,q2,pU,pR]
 case inr.inr.inl=>simp[jI,outW,q1,q2,pU,pR]
 case inr.inr.inr.inl=>have:=uK (by simp);subst this;simp[jI,outW,d1,d2,d3,pR]
 case inr.inr.inr.inr.inl=>obtain⟨t,rfl,ht⟩:=hone (by simp);have hs:=(hin t (by simp)).1;simp[jI,outW,q1,q2,qB t ro hs ht,pU,pR]
 case inr.inr.inr.inr.inr.inl=>have:=uK (by simp);subst this;simp[jI,outW,ku,x1,x2,pU]
 case inr.inr.inr.inr.inr.inr.inl=>have:=uK (by simp);subst this;simp[jI,outW,pU,pR]
 case inr.inr.inr.inr.inr.inr.inr=>have:=uK (by simp);subst this;simp[jI,outW,pU,pR]
theorem GN {gl:Gl}{gs:List Zy}(h:Z7 gl gs)(l:List (List Int))(hl:∀s∈l,∀n∈s,In gs.length n):qM gs (aQ gs l) l:=⟨fun w hw=>⟨(oh h _ hl w hw).1,(oh h _ hl w hw).2.1⟩,Iz h _ hl⟩
end
section
open Go.RowKit Go.Sort
theorem Kv (n:Int):(fJ n).length<=6:=by
 unfold fJ pick;split
 ·simp
 have:∀s∈opNames,s.length<=6:=by decide
 cases h:opNames[(n - 1).toNat]? with
 |none=>simp
 |some s=>exact this s (aa8 h)
theorem FH (x:Ins)(h:x.a=0):aX x=fJ x.op:=by simp[aX,h]
theorem Gw (x:Ins)(h:x.a≠0):aX x=fJ x.op++58::af x.a:=by simp[aX,h]
theorem lU (w:World)(A:Option Addr)(c:Nat)(l:List Ins)(hT:Tabs w)(hA:Sl ZQ 2 w (FT w) A l)(hl:l.length<=100000000000):
  Calls Tryd.prog 24 #[.slice A l.length c] w (bY w (l.map aX)):=by
 go_enter Tryd.func24,Tryd.ntmps24
 go_wp2;go_loopw [3,9] (fun v i wr=>∃k:Nat,k<=l.length/\i= .int .i64 k/\Z9 w ((l.take k).map aX) v wr) (fun _ i _=>l.length - (intOf i).toNat)
 case atStart=>exact⟨0,nz _,rfl,by simpa using Z9.nil w⟩
 case round=>
  obtain⟨k,hk,rfl,A3,c3,rfl,hown,hbl⟩:=hrel;have hlk:((l.take k).map aX).length=k:=by simp;omega
  by_cases hlt:k<l.length
  ·obtain⟨b,o,x,rfl,-,hx,q0,q1,r0,r1⟩:=((KP.below hbl).sl ZQ.ok hA).ins hlt;have HS:=hd0 (gu aX l k x hx.out);have HL:=hd0 hlk;generalize hws:(l.take k).map aX=ws at*
   have s0:=hbl.size;have hll:ws.length<=1000000000000:=by rw[HL.out];omega
   have hb0:Below wr.heap.size wr (wr.alloc (.cells #[.int .i64 x.op,.int .i64 x.a] 72)):=(aa0 _ _).alloc (ag _) _;have hT1:Tabs (wr.alloc (.cells #[.int .i64 x.op,.int .i64 x.a] 72)):=(hT.all hbl).all hb0;have ho:=hd0 (xI _ x.op hT1);have hn:=hd0 (aA _ x.a hT1 r1);have Hb0:=hd0 hb0;have hol:=Kv x.op;have hil:=jU r1;by_cases h0:x.a=0
   ·have HI:=hd0 (FH x h0);have e1:(x.a==0)=true:=by simp[h0]
    have e2:(x.a !=0)=false:=by simp[h0]
    clear hb0 hx r0 r1 hws hlk hT1 h0 hn;go_wp2_with (first
     |(go_at_call 13;refine ho.out.mono ?_;rintro e w' ⟨rfl,rfl⟩)
     |(at_builtin;refine wO rfl (.tmp 25) (.tmp 27) rfl _ (wr.heap.size+1) (World.size_alloc _ _) w.heap.size ws.length c3 A3 (strs ws) (fJ x.op) rfl rfl (hown.alloc _) hll (by simp;omega) ?_;intro A4 c4 w2 ho2 hg2))
    go_roundw
    case rel=>exact⟨k+1,by omega,by simp,Z9.next hbl Hb0.out hown (us:=[fJ x.op]) ho2 hg2 (by rw[HS.out,HI.out])⟩
    case measure=>simp[intOf];omega
   have HI:=hd0 (Gw x h0);have e1:(x.a==0)=false:=by simp[h0]
   have e2:(x.a !=0)=true:=by simp[h0]
   have a1:(ByteArray.mk #[58])++⟨(af x.a).toArray⟩=⟨(58::af x.a).toArray⟩:=iV [58] _;have a2:(ByteArray.mk (fJ x.op).toArray)++⟨(58::af x.a).toArray⟩=⟨(fJ x.op++58::af x.a).toArray⟩:=iV _ _;clear hb0 hx r0 r1 hws hlk hT1 h0;go_wp2_with (first
    |(go_at_call 13;refine ho.out.mono ?_;rintro e w' ⟨rfl,rfl⟩)
    |(go_at_call 21;refine hn.out.mono ?_;rintro e w1 ⟨rfl,hb1⟩;have hb2:Below wr.heap.size wr w1:=Hb0.out.trans (hb1.mono Hb0.out.size);have s1:=hb2.size)
    |(at_builtin;refine aJ rfl (.tmp 25) (.tmp 27) rfl _ w.heap.size ws.length c3 A3 (strs ws) (fJ x.op++58::af x.a) rfl rfl (own_below hown hb2) hll (by omega) ?_;intro A4 c4 w2 ho2 hg2))
   go_roundw
   case rel=>exact⟨k+1,by omega,by simp,Z9.next hbl hb2 hown (us:=[fJ x.op++58::af x.a]) ho2 hg2 (by rw[HS.out,HI.out])⟩
   case measure=>simp[intOf];omega
  obtain rfl:k=l.length:=by omega
  have HL:Hid ((l.take l.length).map aX=l.map aX):=by show _=_;rw[aa6]
  generalize hws:(l.take l.length).map aX=ws at*
  clear hws hlk;go_wp2;go_ret
  rw[<-HL.out];exact⟨A3,c3,rfl,hown,hbl⟩
theorem Jd (gs:List Zy)(n:Int):setW gs [n]=[aT gs n]:=rfl
theorem wP (gs:List Zy)(l:List Int)(h:l.length≠1):setW gs l=[91]::l.map (aT gs)++[[93]]:=by
 unfold setW;split
 ·simp at h
 rfl
theorem yl {α:Type}(f:α->List B)(l:List α)(k:Nat):((l.take k).flatMap f).length<=(l.flatMap f).length:=by
 conv=>rhs;rw[<-abx k l]
 simp only[aby,la];omega
theorem qR {α:Type}(f:α->List B)(l:List α)(k:Nat)(x:α)(h:l[k]? =some x):((l.take k).flatMap f).length+(f x).length<=(l.flatMap f).length:=by have:=yl f l (k+1);rw[aN f l k x h,la] at this;exact this
theorem rU (w:World)(g:Nat)(gs:List Zy)(A:Option Addr)(c:Nat)(l:List (List Int))(hT:Tabs w)(hP:PN w g gs)(hgl:gs.length<=1000000000000)(hA:Sl Zw 1 w (FT w) A l)(hl:l.length<=100000000000)(hsl:(aQ gs l).length<=10000000000):
  Calls Tryd.prog 71 #[.pointer (some ⟨g,0,none⟩),.slice A l.length c] w (bY w (aQ gs l)):=by
 go_enter Tryd.func71,Tryd.ntmps71
 go_wp2;go_loopw [5,10] (fun v i wr=>∃k:Nat,k<=l.length/\i= .int .i64 k/\Z9 w ((l.take k).flatMap (setW gs)) v wr) (fun _ i _=>l.length - (intOf i).toNat)
 case atStart=>exact⟨0,nz _,rfl,by simpa using Z9.nil w⟩
 case round=>
  obtain⟨k,hk,rfl,A3,c3,rfl,hown,hbl⟩:=hrel;by_cases hlt:k<l.length
  ·obtain⟨b,o,x,A1,c1,rfl,-,hx,q9,hA0⟩:=hA.row hlt;have q0:=ae hbl q9;have hA1:=(KP.below hbl).sl Zx.ok hA0;have HS:=hd0 (aN (setW gs) l k x hx.out);have hwl:=qR (setW gs) l k x hx.out;have hl2:(l.flatMap (setW gs)).length<=10000000000:=hsl;generalize hws:(l.take k).flatMap (setW gs)=ws at*
   have s0:=hbl.size;by_cases h1:x.length=1
   ·obtain⟨n,rfl⟩:∃n,x=[n]:=by
     match x,h1 with
     |[n],_=>exact⟨n,rfl⟩
    obtain⟨b1,o1,y,rfl,-,hy,q1,r1⟩:=hA1.int (k:=0) (by simp);obtain rfl:n=y:=by have:=hy.out;simpa using this
    rw[Nat.add_zero] at q1;have hn:=hd0 (ou wr g gs n (hT.all hbl) r1 (hP.below hbl) hgl);have hll:ws.length<=1000000000000:=by omega
    clear hx hws hA1 h1 hy r1 hwl hl2;simp only[lc,ln,abI] at q0;go_wp2_with (first
     |(go_at_call 26;refine hn.out.mono ?_;rintro e w1 ⟨rfl,hb1⟩;have s1:=hb1.size)
     |(at_builtin;refine aJ rfl (.tmp 17) (.tmp 23) rfl w1 w.heap.size ws.length c3 A3 (strs ws) (aT gs n) rfl rfl (own_below hown hb1) hll (by omega) ?_;intro A4 c4 w2 ho2 hg2))
    go_roundw
    case rel=>exact⟨k+1,by omega,by simp,Z9.next hbl hb1 hown (us:=[aT gs n]) ho2 hg2 (by rw[HS.out,Jd])⟩
    case measure=>simp[intOf];omega
   have HW:=hd0 (wP gs x h1);have hxl:ws.length+x.length+2<=10000000000:=by rw[HW.out] at hwl;simp only[la,lc,aa7,ln] at hwl;omega
   have e1:(x.length==1)=false:=by simpa using h1
   have e2:((x.length:Int)==1)=false:=by simp;omega
   have hN0:aaj w ws ws.length A3 c3 wr:=⟨rfl,hown,hbl⟩
   clear hx hws hwl hl2 h1 hA1 q9;go_wp2_with (first
    |(at_builtin;refine aJ rfl (.tmp 25) (.tmp 26) rfl wr w.heap.size ws.length c3 A3 (strs ws) [91] rfl rfl hown (by omega) (by omega) ?_;intro A4 c4 w2 ho2 hg2;have Su:=hN0.next (us:=[[91]]) (aa0 _ _) ho2 hg2;have hb2:=Su.2.2;have s2:=hb2.size)
    |(go_at_call 72;refine(zH w2 g gs A1 c1 x (hT.all hb2) (hP.below hb2) hgl ((KP.below hb2).sl Zx.ok hA0) (by omega)).mono ?_;rintro e w3 ⟨A5,c5,rfl,ho3,hb3⟩;have s3:=hb3.size;have VK:=cZ ho3 (aa7 (aT gs)))
    |(at_builtin;refine bU rfl (.tmp 28) (.tmp 31) rfl w3 w.heap.size (ws.length+1) c4 A4 _ w3.heap.size A5 x.length c5 (x.map (aT gs)) rfl rfl (own_below ho2 hb3) VK (by omega) (by omega) ?_;intro A6 c6 w4 ho4 hg4;have qY:=Su.next (us:=x.map (aT gs)) hb3 (by rw[nN];exact ho4) hg4;have s4:=qY.2.2.size)
    |(at_builtin;refine aJ rfl (.tmp 33) (.tmp 34) rfl w4 w.heap.size _ c6 A6 _ [93] rfl rfl ho4 (by omega) (by omega) ?_;intro A7 c7 w5 ho5 hg5;have Vw:=qY.next (us:=[[93]]) (aa0 _ _) (by rw[nN,nN];exact ho5) hg5))
   go_roundw
   case rel=>exact⟨k+1,by omega,by simp,by rw[HS.out,HW.out];simpa using Vw.s⟩
   case measure=>simp[intOf];omega
  obtain rfl:k=l.length:=by omega
  have HL:Hid ((l.take l.length).flatMap (setW gs)=aQ gs l):=by show _=_;rw[aa6];rfl
  generalize hws:(l.take l.length).flatMap (setW gs)=ws at*
  clear hws;go_wp2;go_ret
  rw[<-HL.out];exact⟨A3,c3,rfl,hown,hbl⟩
end
section
open Go.RowKit
def ZG (gl:Gl)(s:PS)(L:List (List B))(s':PS):Prop:=MJ L/\∀n,stmts gl s (mD n L)= .ok s'
theorem ZG.nil (gl:Gl)(s:PS):ZG gl s [] s:=⟨fun l hl=>by simp at hl,fun _=>rfl⟩
theorem ZG.cons {gl:Gl}{s s' s'':PS}{l:List B}{L:List (List B)}(hl:l≠[]/\∀w∈l,aP w=true)(h:stmt gl s l= .ok s')(k:ZG gl s' L s''):ZG gl s (l::L) s'':=by
 refine⟨fun x hx=> ?_,fun n=> ?_⟩
 ·rw[abd] at hx;rcases hx with rfl|hx
  ·exact hl
  exact k.1 x hx
 rw[mD,stmts,h];exact k.2 _
theorem ZG.app {gl:Gl}{s s' s'':PS}{a b:List (List B)}(h:ZG gl s a s')(k:ZG gl s' b s''):ZG gl s (a++b) s'':=by
 refine⟨fun x hx=> ?_,fun n=> ?_⟩
 ·rw[aa5] at hx;rcases hx with hx|hx
  ·exact h.1 x hx
  exact k.1 x hx
 rw[EK,Es,h.2 n];exact k.2 _
theorem ZG.one {gl:Gl}{s s':PS}{l:List B}(hl:l≠[]/\∀w∈l,aP w=true)(h:stmt gl s l= .ok s'):ZG gl s [l] s':= .cons hl h (.nil _ _)
theorem ZG.aaG {α:Type}{gl:Gl}(l:List α)(lines:α->List (List B))(st:List α->PS)(h:∀done x rest,l=done++x::rest->ZG gl (st done) (lines x) (st (done++[x]))):ZG gl (st []) (l.flatMap lines) (st l):=by
 suffices key:∀rest done,l=done++rest->ZG gl (st done) (rest.flatMap lines) (st l) from key l [] rfl
 intro rest;induction rest with
 |nil=>intro done e;simp at e;subst e;exact .nil _ _
 |cons x r ih=>intro done e;rw[abj];exact(h done x r e).app (ih (done++[x]) (by simp[e]))
theorem ZG.each {α:Type}{gl:Gl}(l:List α)(line:α->List B)(st:List α->PS)(hl:∀x∈l,line x≠[]/\∀w∈line x,aP w=true)(h:∀done x rest,l=done++x::rest->stmt gl (st done) (line x)= .ok (st (done++[x]))):ZG gl (st []) (l.map line) (st l):=by
 have e:l.map line=l.flatMap (fun x=>[line x]):=by
  clear hl h;induction l with
  |nil=>rfl
  |cons x r ih=>simp[ih]
 rw[e];exact ZG.aaG l _ st fun done x rest hx=> .one (hl x (by simp[hx])) (h done x rest hx)
def mM (a:aap):List B:=[iE,a.name,af a.min',af a.aas,af a.max']
def oQ (r:Region):List B:=dH::r.ZU.flatMap eP
def wS (p:List Ins):List B:=iW::p.map aX
def mX (gs:List Zy)(c:Chr):List B:=[kC,af c.rune,aT gs c.ZF]
def ql (x:aad):List B:=dY::x.name::x.Zu.map af
def yT (l:Lookup):List B:=dB::pick aK l.kind::if l.aae then [iK] else []
def yf (c:List Pt):List B:=bI::c.map dN
def qh (gs:List Zy)(p:Part):List B:=[gW,aT gs p.ZF,af p.x,af p.y]
def pI (a:ZM):List B:=[dV,pick anchorNames a.kind,af a.ZO,af a.x,af a.y]
def pW (d:Delta):List B:=[gy,af d.region,af d.point,af d.x,af d.y]
def hiL (h:List Ins):List B:=iH::h.map aX
def yR (g:Zy):List B:=bP::g.name::af g.advance::if g.mark then [lV] else []
theorem dI {a:B}{l:List B}(ha:aP a=true)(hl:∀w∈l,aP w=true):a::l≠[]/\∀w∈a::l,aP w=true:=
 ⟨by simp,fun w hw=>by
  rw[abd] at hw;rcases hw with rfl|hw
  ·exact ha
  exact hl w hw⟩
theorem ww (l:List Int):∀w∈l.map af,aP w=true:=fun w hw=>by
 rw[abv] at hw;obtain⟨n,-,rfl⟩:=hw;exact jH n
section
variable {gl:Gl} {s:PS}
theorem OT {a:aap}(h:nameB a.name=true/\N9 a.min'/\N9 a.aas/\N9 a.max'):stmt gl s (mM a)= .ok {s with f:= {s.f with ZA:=s.f.ZA++[a]}} :=by obtain⟨h1,h2,h3,h4⟩:=h;rw[mM,Kr,DF,rH h1,dn _ h2,dn _ h3,dn _ h4,(bJ _ h2).2,(bJ _ h3).2,(bJ _ h4).2];rfl
theorem Md {a:aap}(h:nameB a.name=true):mM a≠[]/\∀w∈mM a,aP w=true:=by
 refine⟨by simp[mM],fun w hw=> ?_⟩;simp only[mM,abd,abA,or_false] at hw;rcases hw with rfl|rfl|rfl|rfl|rfl
 ·decide
 ·exact iZ h
 all_goals exact jH _
theorem wH (l:List aag):l.flatMap eP=(l.flatMap fun t=>[t.start,t.peak,t.stop]).map af:=by
 induction l with
 |nil=>rfl
 |cons t r ih=>simp[eP,ih]
theorem DD (l:List aag):qO (l.flatMap fun t=>[t.start,t.peak,t.stop])=l:=by
 induction l with
 |nil=>rfl
 |cons t r ih=>simp[qO,ih]
theorem zY (l:List aag):(l.flatMap fun t=>[t.start,t.peak,t.stop]).length=3*l.length:=by
 induction l with
 |nil=>rfl
 |cons t r ih=>simp only[abj,la,ih,lc,ln];omega
theorem Qn {r:Region}(h:∀t∈r.ZU,N9 t.start/\N9 t.peak/\N9 t.stop):stmt gl s (oQ r)= .ok {s with f:= {s.f with regions:=s.f.regions++[r]}} :=by
 have hn:∀n∈r.ZU.flatMap fun t=>[t.start,t.peak,t.stop],N9 n:=fun n hn=>by
  rw[abE] at hn;obtain⟨t,ht,hn⟩:=hn;obtain⟨h1,h2,h3⟩:=h t ht;simp only[abd,abA,or_false] at hn;rcases hn with rfl|rfl|rfl<;>assumption
 rw[oQ,EU,vC,wH,aa7,zY,if_neg (by omega),lC _ hn,rf _ hn,DD];rfl
theorem Oa (r:Region):oQ r≠[]/\∀w∈oQ r,aP w=true:=by rw[oQ,wH];exact dI (by decide) (ww _)
theorem Qc {l:List Int}(h:∀n∈l,N9 n):stmt gl s (fH::l.map af)= .ok {s with f:= {s.f with ZB:=s.f.ZB++l}} :=by rw[PO,IG,lC _ h,rf _ h];rfl
theorem O7 {p:List Ins}(h:gU p):stmt gl s (wS p)= .ok {s with f:= {s.f with funcs:=s.f.funcs++[p]}} :=by obtain⟨h1,h2,h3,-⟩:=qj p h 0;rw[wS,J6,DL,h3,h1,h2];rfl
theorem Qb {gs:List Zy}(hg:Z7 gl gs){c:Chr}(h:N9 c.rune/\In gs.length c.ZF):stmt gl s (mX gs c)= .ok {s with f:= {s.f with chars:=s.f.chars++[c]}} :=by obtain⟨h1,h2⟩:=h;rw[mX,Le,CZ,dn _ h1,(pF hg h2 0).1,(bJ _ h1).2,(pF hg h2 0).2];rfl
theorem Np {gs:List Zy}(hg:Z7 gl gs){c:Chr}(h:In gs.length c.ZF):mX gs c≠[]/\∀w∈mX gs c,aP w=true:=by
 refine⟨by simp[mX],fun w hw=> ?_⟩;simp only[mX,abd,abA,or_false] at hw;rcases hw with rfl|rfl|rfl
 ·decide
 ·exact jH _
 exact iZ (nM hg h).2
theorem NM {x:aad}(h:nameB x.name=true/\∀n∈x.Zu,N9 n):stmt gl s (ql x)= .ok {s with f:= {s.f with features:=s.f.features++[x]}} :=by obtain⟨h1,h2⟩:=h;rw[ql,CB,sD,rH h1,lC _ h2,rf _ h2];rfl
theorem OH {x:aad}(h:nameB x.name=true):ql x≠[]/\∀w∈ql x,aP w=true:=dI (by decide) (dI (iZ h) (ww _)).2
theorem Bi {p:List Ins}(h:gU p){a:B}(ha:aP a=true):a::p.map aX≠[]/\∀w∈a::p.map aX,aP w=true:=dI ha (qj p h 0).2.2.2
theorem Ns {l:Lookup}(h:1<=l.kind/\l.kind<=8):stmt gl s (yT l)= .ok {s with f:= {s.f with Zu:=s.f.Zu++[⟨l.kind,l.aae,[]⟩]}} :=by obtain⟨h1,-⟩:=wI l.kind h.1 h.2;rw[yT,Ee];cases hi:l.aae<;>simp only[uQ,if_true,if_false,Bool.false_eq_true,true_or,or_true,h1,List.cons_ne_nil]<;>rw[if_neg (by omega)]<;>rfl
theorem PW {l:Lookup}(h:1<=l.kind/\l.kind<=8):yT l≠[]/\∀w∈yT l,aP w=true:=by
 refine dI (by decide) (dI (wI l.kind h.1 h.2).2 fun w hw=> ?_).2;split at hw
 ·simp only[aa1] at hw;subst hw;decide
 simp at hw
end
def lst (s:PS)(init:List Lookup)(l:Lookup):PS:= {s with f:= {s.f with Zu:=init++[l]}}
theorem CW (s:PS)(init:List Lookup)(l:Lookup)(h:Lookup->Lookup):ng (lst s init l) h=lst s init (h l):=by simp[ng,lst]
theorem zZ {gl:Gl}{gs:List Zy}(hg:Z7 gl gs)(hn:gs.length<=1000)(s:PS)(l:Lookup)(hk:1<=l.kind/\l.kind<=8)(hr:∀r∈l.rules,OkR gs.length l.kind r)(ws:List (List Int)->List B)
  (hw:∀x:List (List Int),(∀y∈x,∀n∈y,In gs.length n)->qM gs (ws x) x/\∀w∈ws x,aP w=true):
  ZG gl s (yT l::l.rules.map (fun r=>bn::(ws r.back++[47]::ws r.in'++[47]::ws r.ahead++[62]::outW gs l.kind r))) {s with f:= {s.f with Zu:=s.f.Zu++[l]}} :=by
 refine ZG.cons (PW hk) (Ns hk) ?_;have key:=ZG.each (gl:=gl) l.rules (fun r=>bn::(ws r.back++[47]::ws r.in'++[47]::ws r.ahead++[62]::outW gs l.kind r)) (fun d=>lst s s.f.Zu ⟨l.kind,l.aae,d⟩) (fun r hx=> ?_) (fun done r rest e=> ?_)
 ·have e:lst s s.f.Zu ⟨l.kind,l.aae,l.rules⟩= {s with f:= {s.f with Zu:=s.f.Zu++[l]}} :=rfl;rw[<-e];exact key
 ·have ho:=hr r hx;obtain⟨a1,a2⟩:=hw r.back fun y hy=>(ho.back y hy).2
  obtain⟨b1,b2⟩:=hw r.in' fun y hy=>(ho.in' y hy).2
  obtain⟨c1,c2⟩:=hw r.ahead fun y hy=>(ho.ahead y hy).2
  refine dI (by decide) fun w hw=> ?_
  simp only[abh,abe,aa5,abd] at hw;rcases hw with hw|rfl|hw|rfl|hw|rfl|hw
  ·exact a2 w hw
  ·decide
  ·exact b2 w hw
  ·decide
  ·exact c2 w hw
  ·decide
  exact(uZ hg _ r ho w hw).2.2
 have ho:=hr r (by simp[e]);rw[Kz,FK hg hn _ ⟨l.kind,l.aae,done⟩ (by simp[lst]) hk r ho _ _ _ (hw r.back fun y hy=>(ho.back y hy).2).1 (hw r.in' fun y hy=>(ho.in' y hy).2).1 (hw r.ahead fun y hy=>(ho.ahead y hy).2).1,CW]
def ik (s:PS)(init:List Zy)(g:Zy):PS:= {s with f:= {s.f with Zt:=init++[g]}}
theorem jO (s:PS)(init:List Zy)(g:Zy)(h:Zy->Zy):lN (ik s init g) h=ik s init (h g):=by simp[lN,ik]
theorem pz (s:PS)(init:List Zy)(g:Zy):(ik s init g).f.Zt≠[]:=by simp[ik]
section
variable {gl:Gl} {s:PS} {init:List Zy} {g:Zy}
theorem PI {gs:List Zy}(hg:Z7 gl gs){p:Part}(h:In gs.length p.ZF/\N9 p.x/\N9 p.y):stmt gl (ik s init g) (qh gs p)= .ok (ik s init {g with parts:=g.parts++[p]}):=by obtain⟨h1,h2,h3⟩:=h;rw[qh,KN,CS,if_neg (pz _ _ _)];simp only[(pF hg h1 0).1,(pF hg h1 0).2,dn _ h2,dn _ h3,(bJ _ h2).2,(bJ _ h3).2,jO];rfl
theorem Qi {gs:List Zy}(hg:Z7 gl gs){p:Part}(h:In gs.length p.ZF):qh gs p≠[]/\∀w∈qh gs p,aP w=true:=by
 refine⟨by simp[qh],fun w hw=> ?_⟩;simp only[qh,abd,abA,or_false] at hw;rcases hw with rfl|rfl|rfl|rfl
 ·decide
 ·exact iZ (nM hg h).2
 all_goals exact jH _
theorem Ox {a:ZM}(h:1<=a.kind/\a.kind<=4/\N9 a.ZO/\N9 a.x/\N9 a.y):stmt gl (ik s init g) (pI a)= .ok (ik s init {g with anchors:=g.anchors++[a]}):=by
 obtain⟨h1,h2,h3,h4,h5⟩:=h;obtain⟨k1,-⟩:=wX a.kind h1 h2;have hn:∀n∈[a.ZO,a.x,a.y],N9 n:=by simp[h3,h4,h5]
 have he:=lC [a.ZO,a.x,a.y] hn 0;rw[pI,FY,wG,if_neg (pz _ _ _)];simp only[aba,abL] at he;simp only[k1,he,(bJ _ h3).2,(bJ _ h4).2,(bJ _ h5).2,jO];rw[if_neg (by omega)];rfl
theorem NJ {a:ZM}(h:1<=a.kind/\a.kind<=4):pI a≠[]/\∀w∈pI a,aP w=true:=by
 refine⟨by simp[pI],fun w hw=> ?_⟩;simp only[pI,abd,abA,or_false] at hw;rcases hw with rfl|rfl|rfl|rfl|rfl
 ·decide
 ·exact(wX a.kind h.1 h.2).2
 all_goals exact jH _
theorem Qu {d:Delta}(h:N9 d.region/\N9 d.point/\N9 d.x/\N9 d.y):stmt gl (ik s init g) (pW d)= .ok (ik s init {g with deltas:=g.deltas++[d]}):=by
 obtain⟨h1,h2,h3,h4⟩:=h;have hn:∀n∈[d.region,d.point,d.x,d.y],N9 n:=by simp[h1,h2,h3,h4]
 have he:=lC [d.region,d.point,d.x,d.y] hn 0;rw[pW,II,zn,if_neg (pz _ _ _)];simp only[aba,abL] at he;simp only[he,(bJ _ h1).2,(bJ _ h2).2,(bJ _ h3).2,(bJ _ h4).2,jO];rfl
theorem Nr (d:Delta):pW d≠[]/\∀w∈pW d,aP w=true:=by
 refine⟨by simp[pW],fun w hw=> ?_⟩;simp only[pW,abd,abA,or_false] at hw;rcases hw with rfl|rfl|rfl|rfl|rfl
 ·decide
 all_goals exact jH _
theorem Mc {h:List Ins}(hk:gU h):stmt gl (ik s init g) (hiL h)= .ok (ik s init {g with hint:=g.hint++h}):=by obtain⟨h1,h2,h3,-⟩:=qj h hk 0;rw[hiL,L6,DX,if_neg (pz _ _ _),h3,h1,h2,jO];rfl
theorem Og {c:List Pt}(hc:∀p∈c,N9 p.x/\N9 p.y)(hne:c≠[]):stmt gl (ik s init g) (yf c)= .ok (ik s init {g with points:=g.points++c,ends:=g.ends++[((g.points.length+c.length:Nat):Int) - 1]}):=by
 obtain⟨h1,h2,h3,-⟩:=yA c hc 0;have hb:¬(c.map dN=[]\/(c.map dN).all uV=false):=by rw[h3];simp[hne]
 rw[yf,Dp,sN,if_neg (pz _ _ _),if_neg hb,h1,h2,jO,aa7];rfl
theorem BO (pts:List Pt)(hp:∀p∈pts,N9 p.x/\N9 p.y)(es:List Int)(fr:Nat)(done:List Int)(hfr:fr<=pts.length)(he:iP fr es pts.length)(n:B)(a:Int)(m:Bool):
  ZG gl (ik s init ⟨n,a,m,pts.take fr,done,[],[],[],[]⟩) ((bz pts fr es).map yf) (ik s init ⟨n,a,m,pts,done++es,[],[],[],[]⟩):=by
 induction es generalizing fr done with
 |nil=>simp only[iP] at he;subst he;rw[aa6,abw];exact .nil _ _
 |cons e es ih=>
  obtain⟨h1,h2,h3⟩:=he;have hmem:∀p∈(pts.take (e.toNat+1)).drop fr,N9 p.x/\N9 p.y:=fun p hq=>hp p (List.mem_of_mem_take (List.mem_of_mem_drop hq))
  have hlen:((pts.take (e.toNat+1)).drop fr).length=e.toNat+1 - fr:=by rw[abG,abl];omega
  have hne:(pts.take (e.toNat+1)).drop fr≠[]:=fun h0=>by
   rw[h0] at hlen;simp only[ln] at hlen;omega
  rw[bz,if_neg (by omega),aba];refine .cons (dI (by decide) (yA _ hmem 0).2.2.2) (Og hmem hne) ?_;have e1:pts.take fr++(pts.take (e.toNat+1)).drop fr=pts.take (e.toNat+1):=by have:=abx fr (pts.take (e.toNat+1));rw[List.take_take,Nat.min_eq_left (by omega)] at this;exact this
  have e2:(((pts.take fr).length+((pts.take (e.toNat+1)).drop fr).length:Nat):Int) - 1=e:=by rw[hlen,abl];omega
  have:=ih (e.toNat+1) (done++[e]) (by omega) h3;simp only[e1,e2];simpa using this
end
end
section
open Go.RowKit Go.Sort
theorem wW {ops:Array Oper}{o:Oper}{a:Act}{K:Act->World->Prop}{Q:Exit->Act->World->Prop}{E:Prop}(hgd:o.guard=none)(s x:Operand)
  (ho:o.op= .call {callee:= .builtin .append,args:= #[s,x],argTypes:= #[46,46]})
  (w1:World) (hsz:Nat) (hh:w1.heap.size=hsz) (base n c m:Nat) (A:Option Addr) (xs:List Value) (us:List B) (hm:us.length=m) (hs:a.eval s= .slice A n c) (hx:a.eval x= .slice (some ⟨hsz,0,none⟩) m m)
  (hown:w1.ownsRow base 9 1 (.slice A n c) n xs) (hn:n+m<=1000000000000) (hb:base<=w1.heap.size)
  (h:∀A' c' w',w'.ownsRow base 9 1 (.slice A' (n+m) c') (n+m) (xs++strs us)->w1.grownBy w' (Value.slice A n c).ownBlock->K (a.put o.dst (.slice A' (n+m) c')) w'):
  if Region.wanted o (yielded ops a.tmps)=true then Oper.wp Tryd.prog o a (w1.alloc (.cells (strs us).toArray 9)) K Q else E:=by
 subst hh;subst hm;obtain⟨i0,hi0,hz0,hz1,hz2⟩:=info_parts qF;refine lY _ hgd s x 46 ho base 9 i0 _ 1 16 Tryd.underlying46 hi0 hz0 hz1 hz2 rfl (by decide) (.slice A n c) n xs hs (hown.alloc _) (w1.heap.size+1) (some ⟨w1.heap.size,0,none⟩) us.length us.length (strs us) hx (Rd.newAt _ _ rfl (strs us).toArray 9 us.length 1 (by simp[yB])) (rC us) (by simp only[maxLen];omega) (by omega) (by simp;omega) ?_;intro v' w' ho' hg _;obtain⟨A',c',rfl⟩:=nK ho';refine h A' c' w' ho' ⟨hg.os,hg.tape,hg.output,nt (by simp) hg.size,fun i hi hne=> ?_⟩;exact(hg.block i (by simp;omega) hne).trans (Below.heap_alloc _ _ _ hi)
theorem Tabs.drew {w:World}(h:Tabs w):Tabs w.drew:=⟨h.ops,h.anch,h.kinds,h.pow⟩
theorem dW {w w':World}(h:Below w.drew.heap.size w.drew w'):Below w.heap.size w w':=⟨h.os,h.tape,h.output,h.size,h.block⟩
theorem bt {a b c:World}(h:Below a.heap.size a b)(k:Below b.heap.size b c):Below a.heap.size a c:=h.trans (k.mono h.size)
theorem jE {w w':World}{row:Option Nat}(hg:w.grownBy w' row){b o:Nat}{v:Value}(h:w.cell? ⟨b,o,none⟩=some v)(hne:some b≠row):w'.cell? ⟨b,o,none⟩=some v:=(World.cell?_of_block (a:=⟨b,o,none⟩) (hg.block b (World.block_lt_of_cell? w _ h) hne)).trans h
theorem sG (l:List aag):(l.flatMap eP).length=l.length*3:=by
 induction l with
 |nil=>rfl
 |cons x l ih=>simp only[abj,la,ih,eP,lc,ln];omega
theorem Pr.below {w w':World}{Bd g:Nat}{fc:Nat->Value}{txt:B}(h:Pr w Bd g fc txt)(hb:Below w.heap.size w w'):Pr w' Bd g fc txt:=by obtain⟨ad,v,h1,h2,h3,h4⟩:=h;exact⟨ad,v,h1,(hb.block g (Bk.lt h2)).trans h2,h3,own_below h4 hb⟩
theorem fM {w:World}{base n c:Nat}{A:Option Addr}{ws:List B}(h:w.ownsRow base 9 1 (.slice A n c) n (strs ws)):Sl aaw 1 w (FT w) A ws:=Sl.ZX h (Bq _ _ _) (fun _ _ hb=>tN hb (by decide) (by decide)) (by decide)
theorem Ep (w:World)(Bd g:Nat)(fc:Nat->Value)(txt:B)(A:Option Addr)(c:Nat)(l:List aag)(hT:Tabs w)(hp:Pr w Bd g fc txt)(hBd:Bd<=w.heap.size)(hA:Sl aaq 3 w (FT w) A l)(hl:l.length<=10000000000)(hlen:txt.length+(ai dH (l.flatMap eP)).length<=1000000000000):
  Calls Tryd.prog 22 #[.pointer (some ⟨g,0,none⟩),.agg #[.slice A l.length c]] w fun e w'=>e= .returned (.tuple #[])/\Pr w' Bd g fc (txt++ai dH (l.flatMap eP))/\KP w w'/\Below Bd w w':=by
 have hTL:=Nat.le_of_eq (sG l);go_enter Tryd.func22,Tryd.ntmps22
 go_wp2;go_loopw [4,10] (fun v i wr=>∃k:Nat,k<=l.length/\i= .int .i64 k/\Z9 w ((l.take k).flatMap eP) v wr) (fun _ i _=>l.length - (intOf i).toNat)
 case atStart=>exact⟨0,nz _,rfl,none,0,rfl,⟨rfl,.inl ⟨rfl,rfl⟩⟩,(aa0 _ _).alloc (ag _) _⟩
 case round=>
  obtain⟨k,hk,rfl,A3,c3,rfl,hown,hbl⟩:=hrel;have hlk:=sG (l.take k);rw[abl,Nat.min_eq_left hk] at hlk;by_cases hlt:k<l.length
  ·obtain⟨b,o,x,rfl,-,hx,q0,q1,q2,r0,r1,r2⟩:=((KP.below hbl).sl aaq.ok hA).aaZ hlt;have HS:=hd0 (aN eP l k x hx.out);generalize hws:(l.take k).flatMap eP=ws at*
   have s0:=hbl.size;have hN0:aaj w ws ws.length A3 c3 wr:=⟨rfl,hown,hbl⟩
   have hll:ws.length<=100000000000:=by omega
   have Dq:ws.length+3<=1000000000000:=by omega
   obtain⟨x0,x1,x2⟩:=x;dsimp only at q0 q1 q2 r0 r1 r2;have hT1:=hT.all hbl;clear hx hws hlk;have hne:Hid (some wr.heap.size≠(Value.slice A3 ws.length c3).ownBlock):=fun e=>by have:=(hown.lt _ e.symm).2;omega
   go_wp2_with fail
   obtain⟨W1,hW1⟩:∃W1,wr.alloc (.cells #[.int .i64 x0,.int .i64 x1,.int .i64 x2] 86)=W1:=⟨_,rfl⟩
   rw[hW1];have hb0:Below wr.heap.size wr W1:=by rw[<-hW1];exact(aa0 _ _).alloc (ag _) _
   have hT2:=hT1.all hb0;have k0:W1.cell? ⟨wr.heap.size,0,none⟩=some (.int .i64 x0):=by rw[<-hW1];simp[go_sem]
   have k1:W1.cell? ⟨wr.heap.size,1,none⟩=some (.int .i64 x1):=by rw[<-hW1];simp[go_sem]
   have k2:W1.cell? ⟨wr.heap.size,2,none⟩=some (.int .i64 x2):=by rw[<-hW1];simp[go_sem]
   have z0:=hb0.size;clear hW1 q0 q1 q2
   go_region_held3 (fun w'=>w'.cell? ⟨wr.heap.size,0,none⟩=some (.int .i64 x0)/\w'.cell? ⟨wr.heap.size,1,none⟩=some (.int .i64 x1)/\w'.cell? ⟨wr.heap.size,2,none⟩=some (.int .i64 x2))
    (first
     |exact⟨jE hg4 (ae hc3 k0) hne.out,jE hg4 (ae hc3 k1) hne.out,jE hg4 (ae hc3 k2) hne.out⟩
     |exact⟨ae hc3 k0,ae hc3 k1,ae hc3 k2⟩
     |exact⟨ae hc2 k0,ae hc2 k1,ae hc2 k2⟩
     |exact⟨ae hc1 k0,ae hc1 k1,ae hc1 k2⟩
     |go_keep)
    (first
     |(go_at_call 21;refine(aA _ x0 hT2.drew r0).mono ?_;rintro e w1 ⟨rfl,hb1⟩;have hc1:=dW hb1;have z1:=hc1.size)
     |(go_at_call 21;refine(aA _ x1 (hT2.all hc1) r1).mono ?_;rintro e w2 ⟨rfl,hb2⟩;have hc2:=bt hc1 hb2;have z2:=hc2.size)
     |(go_at_call 21;refine(aA _ x2 (hT2.all hc2) r2).mono ?_;rintro e w3 ⟨rfl,hb3⟩;have hc3:=bt hc2 hb3;have z3:=hc3.size)
     |(refine wW (by rfl) (.tmp 14) (.tmp 24) (by rfl) w3 w3.heap.size rfl w.heap.size ws.length c3 3 A3 (strs ws) [af x0,af x1,af x2] rfl (by go_simp) (by go_simp) (own_below hown (bt hb0 hc3)) Dq (nt s0 (nt z0 z3)) ?_;intro A4 c4 w4 ho4 hg4))
   have qY:=hN0.next (bt hb0 hc3) ho4 hg4;go_wp2;go_roundw
   case rel=>exact⟨k+1,by omega,by simp,by rw[HS.out];exact qY.s⟩
   case measure=>simp[intOf];omega
  obtain rfl:k=l.length:=by omega
  have HL:Hid ((l.take l.length).flatMap eP=l.flatMap eP):=by show _=_;rw[aa6]
  rw[<-HL.out] at hlen hTL;generalize hws:(l.take l.length).flatMap eP=ws at*
  have hb3:=hp.below hbl;have hs3:=fM hown;have hw3:ws.length<=1000000000000:=by omega
  clear hws hlk;go_wp2_with (go_at_call 20;((with_reducible refine(qK _ Bd g fc txt dH A3 c3 ws hb3 hs3 hlen hw3).mono ?_);rintro e w4 ⟨rfl,Oi,hk4,hb4⟩))
  go_end0
  rw[<-HL.out];exact⟨rfl,Oi,(KP.below hbl).trans hk4,(hbl.mono hBd).trans hb4⟩
end
end Go.Proofs.YtkijckccfookeaaDoor
