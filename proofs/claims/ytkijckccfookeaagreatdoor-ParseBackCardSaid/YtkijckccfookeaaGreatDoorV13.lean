/- Lemmas. -/
import Derived.Test.YtkijckccfookeaaGreatDoorV10
set_option linter.unusedVariables false
set_option linter.unusedSimpArgs false
set_option maxRecDepth 100000
set_option maxHeartbeats 32000000
namespace Go.Proofs.YtkijckccfookeaaGreatDoor
open Go.RowKit
section
theorem tZ (w:World)(s:B)(c:UInt8):Calls Tryz.prog 167 #[.string ⟨s.toArray⟩,.string ⟨#[c]⟩] w fun e w'=>e= .returned (.int .i64 ((Lib.countByte s c:Nat):Int))/\w=w':=(Tryz.strings_Count_one ⟨s.toArray⟩ c w).mono fun _ _ ⟨h1,h2⟩=>⟨h1,h2.symm⟩
theorem zY (w:World)(s:B)(c:UInt8):Calls Tryz.prog 162 #[.string ⟨s.toArray⟩,.string ⟨#[c]⟩] w fun e w'=>e= .returned (.int .i64 (Lib.indexByte s c))/\w=w':=(Tryz.strings_Index_one ⟨s.toArray⟩ c w).mono fun _ _ ⟨h1,h2⟩=>⟨h1,h2.symm⟩
def PR (t:B):Bool:=decide (t.count 58<=1)
def DF (t:B):Bool:=t.count 58==1
theorem VH (w:World)(t:B):Calls Tryz.prog 166 #[.string ⟨t.toArray⟩] w fun e w'=>e= .returned (.bool (PR t))/\w=w':=by
 have hd:Hid (decide (((Lib.countByte t 58:Nat):Int)<=1)=PR t):=by show _=_;rw[PR,Lib.countByte];exact decide_eq_decide.2 (by omega)
 go_enter Tryz.func166,Tryz.ntmps166
 go_wp2_with (go_at_call 167;refine(tZ _ t 58).mono ?_;rintro e w' ⟨rfl,rfl⟩)
 go_ret
 exact⟨by rw[<-hd.out];simp,rfl⟩
theorem PP (w:World)(t:B):Calls Tryz.prog 186 #[.string ⟨t.toArray⟩] w fun e w'=>e= .returned (.bool (DF t))/\w=w':=by
 have hd:Hid ((((Lib.countByte t 58:Nat):Int)==1)=DF t):=by show _=_;rw[DF,Lib.countByte,Bool.eq_iff_iff,beq_iff_eq,beq_iff_eq];omega
 go_enter Tryz.func186,Tryz.ntmps186
 go_wp2_with (go_at_call 167;refine(tZ _ t 58).mono ?_;rintro e w' ⟨rfl,rfl⟩)
 go_ret
 exact⟨by rw[<-hd.out];try simp,rfl⟩
theorem abt (s:B)(c:UInt8):c ∉ df c s:=by
 induction s with
 |nil=>simp[df]
 |cons d r ih=>
  by_cases hd:d=c
  ·subst hd;simp[df]
  have:df c (d::r)=d::df c r:=by show List.takeWhile (· !=c) (d::r)=_;rw[List.takeWhile_cons_of_pos (p:=fun x=>x !=c) (by simpa using hd)];rfl
  rw[this,aqx];rintro(e|e)
  ·exact hd e.symm
  exact ih e
theorem ac8 (s:B)(c:UInt8)(h:hasB c s=true):s.idxOf c=(df c s).length:=by
 obtain⟨h1,h2⟩:=Px s c h;have hn:=abt s c
 conv=>lhs;rw[h2]
 rw[List.idxOf_append,if_neg hn];simp
theorem Oc (w:World)(t:B)(ht:t.length<=100000000):Calls Tryz.prog 170 #[.string ⟨t.toArray⟩] w fun e w'=>e= .returned (.bool (lV t))/\w=w':=by
 have hge:=Lib.indexByte_ge t 42;by_cases hc:Lib.countByte t 44=1
 ·have hc1:t.count 44=1:=hc;cases hs:hasB 42 t with
  |false=>
   have hi:=hd0 (acR t 42 hs);have hp:Hid (lV t=true):=by show _=_;have:t.contains 42=false:=hs;rw[lV,hc1,this];rfl
   have HC:=hd0 hc;clear hc hc1 hs hge ht;go_enter Tryz.func170,Tryz.ntmps170
   go_wp2_with (first
    |(go_at_call 162;refine(zY _ t 42).mono ?_;rintro e w' ⟨rfl,rfl⟩;rw[hi.out])
    |(go_at_call 167;refine(tZ _ t 44).mono ?_;rintro e w' ⟨rfl,rfl⟩;rw[HC.out]))
   go_ret
   exact⟨by rw[hp.out];rfl,rfl⟩
  |true=>
   obtain⟨h1,h2⟩:=Px t 42 hs;have hi:=hd0 h1;have hx:=ac8 t 42 hs;have hlt:(df 42 t).length<t.length:=by
    conv=>rhs;rw[h2]
    simp
   have HC:=hd0 hc;have hcon:t.contains 42=true:=hs;by_cases he:(df 42 t).length+1=t.length
   ·have hp:Hid (lV t=true):=by
     show _=_;rw[lV,hc1,hcon,hx];simp;omega
    have e1:(((df 42 t).length:Int)==(t.length:Int) - 1)=true:=by simp;omega
    clear hc hc1 hs h1 h2 hx hge he hcon;generalize (df 42 t).length=a at*
    go_enter Tryz.func170,Tryz.ntmps170
    go_wp2_with (first
     |(go_at_call 162;refine(zY _ t 42).mono ?_;rintro e w' ⟨rfl,rfl⟩;rw[hi.out])
     |(go_at_call 167;refine(tZ _ t 44).mono ?_;rintro e w' ⟨rfl,rfl⟩;rw[HC.out]))
    go_ret
    exact⟨by rw[hp.out];rfl,rfl⟩
   have hp:Hid (lV t=false):=by show _=_;rw[lV,hc1,hcon,hx];simp;omega
   have e1:(((df 42 t).length:Int)==(t.length:Int) - 1)=false:=by simp;omega
   clear hc hc1 hs h1 h2 hx hge he hcon;generalize (df 42 t).length=a at*
   go_enter Tryz.func170,Tryz.ntmps170
   go_wp2_with (first
    |(go_at_call 162;refine(zY _ t 42).mono ?_;rintro e w' ⟨rfl,rfl⟩;rw[hi.out])
    |(go_at_call 167;refine(tZ _ t 44).mono ?_;rintro e w' ⟨rfl,rfl⟩;rw[HC.out]))
   go_ret
   exact⟨by rw[hp.out];rfl,rfl⟩
 have hp:Hid (lV t=false):=by
  show _=_;have:(t.count 44==1)=false:=by simpa [Lib.countByte] using hc
  rw[lV,this];rfl
 have e1:(((Lib.countByte t 44:Nat):Int)==1)=false:=by simp;omega
 clear hc;generalize Lib.indexByte t 42=z at*
 go_enter Tryz.func170,Tryz.ntmps170
 go_wp2_with (first
  |(go_at_call 162;refine(zY _ t 42).mono ?_;rintro e w' ⟨rfl,rfl⟩)
  |(go_at_call 167;refine(tZ _ t 44).mono ?_;rintro e w' ⟨rfl,rfl⟩))
 go_ret
 exact⟨by rw[hp.out];rfl,rfl⟩
theorem uf {ws:List P3}{k:Nat}{x y:Int}{z:B}(h:ws[k]? =some (x,y,z)):(x,y,z)∈ws:=aqt h
theorem abU (ws:List P3)(pr:B->Bool)(k:Nat)(x y:Int)(z:B)(h:ws[k]? =some (x,y,z))(ha:(ws.take k).all (fun x=>pr x.2.2)=true):(ws.take (k+1)).all (fun x=>pr x.2.2)=pr z:=by obtain⟨hk,hg⟩:=aqm.1 h;rw[aqB hk,List.all_append,ha,hg];simp
theorem agk (ws:List P3)(pr:B->Bool)(k:Nat)(x y:Int)(z:B)(h:ws[k]? =some (x,y,z))(hz:pr z=false):ws.all (fun x=>pr x.2.2)=false:=by rw[List.all_eq_false];exact⟨_,aqt h,by simpa using hz⟩
theorem yz (F:Nat)(pr:B->Bool)(hE:∀(args:Array Value) (w:World),(callFunc F args).run Tryz.prog w= .ok (.enter F args) w)(hF:∀(w:World) (t:B),t.length<=100000000->Calls Tryz.prog F #[.string ⟨t.toArray⟩] w fun e w'=>e= .returned (.bool (pr t))/\w=w')
  (w:World) (A:Option Addr) (n c:Nat) (ws:List P3) (hr:RdT w 124 A n 3 (dD ws)) (hl:∀x∈ws,x.2.2.length<=100000000) (hn:n<=1000000000):
  Calls Tryz.prog 165 #[.slice A n c,.func (.func F) #[] #[]] w fun e w'=>e= .returned (.bool (ws.all (fun x=>pr x.2.2)))/\Below w.heap.size w w':=by
 have hwl:=hd0 hr.rd.aoE;go_enter Tryz.func165,Tryz.ntmps165
 go_wp2;go_loopw [9] (fun i wr=>∃k:Nat,k<=n/\i= .int .i64 k/\Hid ((ws.take k).all (fun x=>pr x.2.2)=true)/\Below w.heap.size w wr) (fun i _=>n - (intOf i).toNat)
 case atStart=>exact⟨0,nz _,rfl,rfl,aqk _ _⟩
 case round=>
  obtain⟨k,hk,rfl,hall,hbl⟩:=hrel;by_cases hlt:k<n
  ·obtain⟨b,o,x,y,z,rfl,hbB,hp,q1,q2,q3⟩:=(hr.below hbl).rd.at3 hlt;have hz:z.length<=100000000:=hl _ (uf hp.out);have hF1:=hd0 (fun w=>hF w z hz);cases hpr:pr z with
   |true=>
    have hs:=hd0 ((abU ws pr k x y z hp.out hall.out).trans hpr);have hpr:=hd0 hpr;clear hz hp hall hF hl;go_wp2_with (refine(hF1.out _).mono ?_;rintro e w' ⟨rfl,rfl⟩;rw[hpr.out])
    go_roundw
    case rel=>exact⟨k+1,by omega,by simp,hs.out,hbl.alloc hbl.size _⟩
    case measure=>simp[intOf];omega
   |false=>
    have hs:=hd0 (agk ws pr k x y z hp.out hpr);have hpr:=hd0 hpr;clear hz hp hall hF hl;go_wp2_with (refine(hF1.out _).mono ?_;rintro e w' ⟨rfl,rfl⟩;rw[hpr.out])
    go_ret
    exact⟨by rw[hs.out];rfl,hbl.alloc hbl.size _⟩
  obtain rfl:k=n:=by omega
  have hs:Hid (ws.all (fun x=>pr x.2.2)=true):=by
   show _=_;have:=hall.out
   rwa [aqE (by rw[hwl.out];exact ag _)] at this
  go_wp2;go_ret
  exact⟨by rw[hs.out];rfl,hbl⟩
theorem Lh (w:World)(A:Option Addr)(n c:Nat)(ws:List P3)(hr:RdT w 124 A n 3 (dD ws))(hl:∀x∈ws,x.2.2.length<=100000000)(hn:n<=1000000000):
  Calls Tryz.prog 125 #[.slice A n c] w fun e w'=>e= .returned (.bool (ws.all (fun x=>PR x.2.2)))/\Below w.heap.size w w':=by
 have hc:=hd0 (yz 166 PR (fun _ _=>enters_of Tryz.func166 (by kernel_rfl) rfl _ _) (fun w t _=>VH w t) w A n c ws hr hl hn);clear hr hl hn;go_enter Tryz.func125,Tryz.ntmps125
 go_wp2_with (go_at_call 165;refine hc.out.mono ?_;rintro e w' ⟨rfl,hb⟩)
 go_ret
 exact⟨rfl,hb⟩
theorem TB (w:World)(A:Option Addr)(n c:Nat)(ws:List P3)(hr:RdT w 124 A n 3 (dD ws))(hl:∀x∈ws,x.2.2.length<=100000000)(hn:n<=1000000000):
  Calls Tryz.prog 172 #[.slice A n c] w fun e w'=>e= .returned (.bool (ws.all (fun x=>DF x.2.2)))/\Below w.heap.size w w':=by
 have hc:=hd0 (yz 186 DF (fun _ _=>enters_of Tryz.func186 (by kernel_rfl) rfl _ _) (fun w t _=>PP w t) w A n c ws hr hl hn);clear hr hl hn;go_enter Tryz.func172,Tryz.ntmps172
 go_wp2_with (go_at_call 165;refine hc.out.mono ?_;rintro e w' ⟨rfl,hb⟩)
 go_ret
 exact⟨rfl,hb⟩
theorem Rl (w:World)(A:Option Addr)(n c:Nat)(ws:List P3)(hr:RdT w 124 A n 3 (dD ws))(hl:∀x∈ws,x.2.2.length<=100000000)(hn:n<=1000000000):
  Calls Tryz.prog 130 #[.slice A n c] w fun e w'=>e= .returned (.bool (ws.all (fun x=>lV x.2.2)))/\Below w.heap.size w w':=by
 have hc:=hd0 (yz 170 lV (fun _ _=>enters_of Tryz.func170 (by kernel_rfl) rfl _ _) (fun w t ht=>Oc w t ht) w A n c ws hr hl hn);clear hr hl hn;go_enter Tryz.func130,Tryz.ntmps130
 go_wp2_with (go_at_call 165;refine hc.out.mono ?_;rintro e w' ⟨rfl,hb⟩)
 go_ret
 exact⟨rfl,hb⟩
def aoa (gl:Gl)(s:PS)(L:List (List B))(s':PS):Prop:=Y6 L/\∀n,stmts gl s (oG n L)= .ok s'
theorem aoa.nil (gl:Gl)(s:PS):aoa gl s [] s:=⟨fun l hl=>by simp at hl,fun _=>rfl⟩
theorem aoa.cons {gl:Gl}{s s' s'':PS}{l:List B}{L:List (List B)}(hl:l≠[]/\∀w∈l,cO w=true)(h:stmt gl s l= .ok s')(k:aoa gl s' L s''):aoa gl s (l::L) s'':=by
 refine⟨fun x hx=> ?_,fun n=> ?_⟩
 ·rw[aqx] at hx;rcases hx with rfl|hx
  ·exact hl
  exact k.1 x hx
 rw[oG,stmts,h];exact k.2 _
theorem aoa.app {gl:Gl}{s s' s'':PS}{a b:List (List B)}(h:aoa gl s a s')(k:aoa gl s' b s''):aoa gl s (a++b) s'':=by
 refine⟨fun x hx=> ?_,fun n=> ?_⟩
 ·rw[aqp] at hx;rcases hx with hx|hx
  ·exact h.1 x hx
  exact k.1 x hx
 rw[YP,xW,h.2 n];exact k.2 _
theorem aoa.one {gl:Gl}{s s':PS}{l:List B}(hl:l≠[]/\∀w∈l,cO w=true)(h:stmt gl s l= .ok s'):aoa gl s [l] s':= .cons hl h (.nil _ _)
theorem aoa.apl {α:Type}{gl:Gl}(l:List α)(lines:α->List (List B))(st:List α->PS)(h:∀done x rest,l=done++x::rest->aoa gl (st done) (lines x) (st (done++[x]))):aoa gl (st []) (l.flatMap lines) (st l):=by
 suffices key:∀rest done,l=done++rest->aoa gl (st done) (rest.flatMap lines) (st l) from key l [] rfl
 intro rest;induction rest with
 |nil=>intro done e;simp at e;subst e;exact .nil _ _
 |cons x r ih=>intro done e;rw[aqD];exact(h done x r e).app (ih (done++[x]) (by simp[e]))
theorem aoa.each {α:Type}{gl:Gl}(l:List α)(line:α->List B)(st:List α->PS)(hl:∀x∈l,line x≠[]/\∀w∈line x,cO w=true)(h:∀done x rest,l=done++x::rest->stmt gl (st done) (line x)= .ok (st (done++[x]))):aoa gl (st []) (l.map line) (st l):=by
 have e:l.map line=l.flatMap (fun x=>[line x]):=by
  clear hl h;induction l with
  |nil=>rfl
  |cons x r ih=>simp[ih]
 rw[e];exact aoa.apl l _ st fun done x rest hx=> .one (hl x (by simp[hx])) (h done x rest hx)
def xN (a:aoA):List B:=[sO,a.name,aN a.min',aN a.aou,aN a.max']
def Bh (r:Region):List B:=kG::r.anT.flatMap AC
def LY (p:List Ins):List B:=rY::p.map ku
def yf (gs:List anP)(c:Chr):List B:=[rF,aN c.rune,iI gs c.anX]
def Dn (x:aon):List B:=jo::x.name::x.anM.map aN
def Gq (l:Lookup):List B:=lU::pick aS l.kind::if l.aol then [iE] else []
def OL (c:List Pt):List B:=iW::c.map ry
def AO (gs:List anP)(p:Part):List B:=[pX,iI gs p.anX,aN p.x,aN p.y]
def Bf (a:an8):List B:=[kC,pick anchorNames a.kind,aN a.cls,aN a.x,aN a.y]
def Bi (d:Delta):List B:=[nC,aN d.region,aN d.point,aN d.x,aN d.y]
def hiL (h:List Ins):List B:=sS::h.map ku
def Gj (g:anP):List B:=eQ::g.name::aN g.advance::if g.mark then [kY] else []
theorem iV {a:B}{l:List B}(ha:cO a=true)(hl:∀w∈l,cO w=true):a::l≠[]/\∀w∈a::l,cO w=true:=
 ⟨by simp,fun w hw=>by
  rw[aqx] at hw;rcases hw with rfl|hw
  ·exact ha
  exact hl w hw⟩
theorem Uy (l:List Int):∀w∈l.map aN,cO w=true:=fun w hw=>by
 rw[aqQ] at hw;obtain⟨n,-,rfl⟩:=hw;exact pJ n
section
variable {gl:Gl} {s:PS}
theorem afd {a:aoA}(h:nameB a.name=true/\N9 a.min'/\N9 a.aou/\N9 a.max'):stmt gl s (xN a)= .ok {s with f:= {s.f with anR:=s.f.anR++[a]}} :=by obtain⟨h1,h2,h3,h4⟩:=h;rw[xN,TY,sQ,Fa h1,gU _ h2,gU _ h3,gU _ h4,(eP _ h2).2,(eP _ h3).2,(eP _ h4).2];rfl
theorem afy {a:aoA}(h:nameB a.name=true):xN a≠[]/\∀w∈xN a,cO w=true:=by
 refine⟨by simp[xN],fun w hw=> ?_⟩;simp only[xN,aqx,aqV,or_false] at hw;rcases hw with rfl|rfl|rfl|rfl|rfl
 ·decide
 ·exact qB h
 all_goals exact pJ _
theorem La (l:List aot):l.flatMap AC=(l.flatMap fun t=>[t.start,t.peak,t.stop]).map aN:=by
 induction l with
 |nil=>rfl
 |cons t r ih=>simp[AC,ih]
theorem U8 (l:List aot):cu (l.flatMap fun t=>[t.start,t.peak,t.stop])=l:=by
 induction l with
 |nil=>rfl
 |cons t r ih=>simp[cu,ih]
theorem Tq (l:List aot):(l.flatMap fun t=>[t.start,t.peak,t.stop]).length=3*l.length:=by
 induction l with
 |nil=>rfl
 |cons t r ih=>simp only[aqD,az,ih,ay,ln];omega
theorem afS {r:Region}(h:∀t∈r.anT,N9 t.start/\N9 t.peak/\N9 t.stop):stmt gl s (Bh r)= .ok {s with f:= {s.f with regions:=s.f.regions++[r]}} :=by
 have hn:∀n∈r.anT.flatMap fun t=>[t.start,t.peak,t.stop],N9 n:=fun n hn=>by
  rw[aqZ] at hn;obtain⟨t,ht,hn⟩:=hn;obtain⟨h1,h2,h3⟩:=h t ht;simp only[aqx,aqV,or_false] at hn;rcases hn with rfl|rfl|rfl<;>assumption
 rw[Bh,Ky,lX,La,aqs,Tq,if_neg (by omega),wS _ hn,Fg _ hn,U8];rfl
theorem agl (r:Region):Bh r≠[]/\∀w∈Bh r,cO w=true:=by rw[Bh,La];exact iV (by decide) (Uy _)
theorem af2 {l:List Int}(h:∀n∈l,N9 n):stmt gl s (pz::l.map aN)= .ok {s with f:= {s.f with cvt:=s.f.cvt++l}} :=by rw[YC,Cc,wS _ h,Fg _ h];rfl
theorem afi {p:List Ins}(h:mg p):stmt gl s (LY p)= .ok {s with f:= {s.f with funcs:=s.f.funcs++[p]}} :=by obtain⟨h1,h2,h3,-⟩:=BR p h 0;rw[LY,UK,rD,h3,h1,h2];rfl
theorem afk {gs:List anP}(hg:aoD gl gs){c:Chr}(h:N9 c.rune/\In gs.length c.anX):stmt gl s (yf gs c)= .ok {s with f:= {s.f with chars:=s.f.chars++[c]}} :=by obtain⟨h1,h2⟩:=h;rw[yf,UB,rq,gU _ h1,(CB hg h2 0).1,(eP _ h1).2,(CB hg h2 0).2];rfl
theorem aeX {gs:List anP}(hg:aoD gl gs){c:Chr}(h:In gs.length c.anX):yf gs c≠[]/\∀w∈yf gs c,cO w=true:=by
 refine⟨by simp[yf],fun w hw=> ?_⟩;simp only[yf,aqx,aqV,or_false] at hw;rcases hw with rfl|rfl|rfl
 ·decide
 ·exact pJ _
 exact qB (Az hg h).2
theorem af1 {x:aon}(h:nameB x.name=true/\∀n∈x.anM,N9 n):stmt gl s (Dn x)= .ok {s with f:= {s.f with features:=s.f.features++[x]}} :=by obtain⟨h1,h2⟩:=h;rw[Dn,Gx,lG,Fa h1,wS _ h2,Fg _ h2];rfl
theorem agx {x:aon}(h:nameB x.name=true):Dn x≠[]/\∀w∈Dn x,cO w=true:=iV (by decide) (iV (qB h) (Uy _)).2
theorem UY {p:List Ins}(h:mg p){a:B}(ha:cO a=true):a::p.map ku≠[]/\∀w∈a::p.map ku,cO w=true:=iV ha (BR p h 0).2.2.2
theorem aeY {l:Lookup}(h:1<=l.kind/\l.kind<=8):stmt gl s (Gq l)= .ok {s with f:= {s.f with anM:=s.f.anM++[⟨l.kind,l.aol,[]⟩]}} :=by obtain⟨h1,-⟩:=KF l.kind h.1 h.2;rw[Gq,MG];cases hi:l.aol<;>simp only[gB,if_true,if_false,Bool.false_eq_true,true_or,or_true,h1,List.cons_ne_nil]<;>rw[if_neg (by omega)]<;>rfl
theorem afo {l:Lookup}(h:1<=l.kind/\l.kind<=8):Gq l≠[]/\∀w∈Gq l,cO w=true:=by
 refine iV (by decide) (iV (KF l.kind h.1 h.2).2 fun w hw=> ?_).2;split at hw
 ·simp only[aql] at hw;subst hw;decide
 simp at hw
end
def lst (s:PS)(init:List Lookup)(l:Lookup):PS:= {s with f:= {s.f with anM:=init++[l]}}
theorem Vm (s:PS)(init:List Lookup)(l:Lookup)(h:Lookup->Lookup):jG (lst s init l) h=lst s init (h l):=by simp[jG,lst]
theorem Tv {gl:Gl}{gs:List anP}(hg:aoD gl gs)(hn:gs.length<=1000)(s:PS)(l:Lookup)(hk:1<=l.kind/\l.kind<=8)(hr:∀r∈l.rules,OkR gs.length l.kind r)(ws:List (List Int)->List B)
  (hw:∀x:List (List Int),(∀y∈x,∀n∈y,In gs.length n)->DU gs (ws x) x/\∀w∈ws x,cO w=true):
  aoa gl s (Gq l::l.rules.map (fun r=>mF::(ws r.back++[47]::ws r.in'++[47]::ws r.ahead++[62]::outW gs l.kind r))) {s with f:= {s.f with anM:=s.f.anM++[l]}} :=by
 refine aoa.cons (afo hk) (aeY hk) ?_;have key:=aoa.each (gl:=gl) l.rules (fun r=>mF::(ws r.back++[47]::ws r.in'++[47]::ws r.ahead++[62]::outW gs l.kind r)) (fun d=>lst s s.f.anM ⟨l.kind,l.aol,d⟩) (fun r hx=> ?_) (fun done r rest e=> ?_)
 ·have e:lst s s.f.anM ⟨l.kind,l.aol,l.rules⟩= {s with f:= {s.f with anM:=s.f.anM++[l]}} :=rfl;rw[<-e];exact key
 ·have ho:=hr r hx;obtain⟨a1,a2⟩:=hw r.back fun y hy=>(ho.back y hy).2
  obtain⟨b1,b2⟩:=hw r.in' fun y hy=>(ho.in' y hy).2
  obtain⟨c1,c2⟩:=hw r.ahead fun y hy=>(ho.ahead y hy).2
  refine iV (by decide) fun w hw=> ?_
  simp only[aqC,aqy,aqp,aqx] at hw;rcases hw with hw|rfl|hw|rfl|hw|rfl|hw
  ·exact a2 w hw
  ·decide
  ·exact b2 w hw
  ·decide
  ·exact c2 w hw
  ·decide
  exact(J9 hg _ r ho w hw).2.2
 have ho:=hr r (by simp[e]);rw[Uw,Zk hg hn _ ⟨l.kind,l.aol,done⟩ (by simp[lst]) hk r ho _ _ _ (hw r.back fun y hy=>(ho.back y hy).2).1 (hw r.in' fun y hy=>(ho.in' y hy).2).1 (hw r.ahead fun y hy=>(ho.ahead y hy).2).1,Vm]
def og (s:PS)(init:List anP)(g:anP):PS:= {s with f:= {s.f with anL:=init++[g]}}
theorem qZ (s:PS)(init:List anP)(g:anP)(h:anP->anP):nY (og s init g) h=og s init (h g):=by simp[nY,og]
theorem Dk (s:PS)(init:List anP)(g:anP):(og s init g).f.anL≠[]:=by simp[og]
section
variable {gl:Gl} {s:PS} {init:List anP} {g:anP}
theorem afe {gs:List anP}(hg:aoD gl gs){p:Part}(h:In gs.length p.anX/\N9 p.x/\N9 p.y):stmt gl (og s init g) (AO gs p)= .ok (og s init {g with parts:=g.parts++[p]}):=by obtain⟨h1,h2,h3⟩:=h;rw[AO,UG,oL,if_neg (Dk _ _ _)];simp only[(CB hg h1 0).1,(CB hg h1 0).2,gU _ h2,gU _ h3,(eP _ h2).2,(eP _ h3).2,qZ];rfl
theorem ae8 {gs:List anP}(hg:aoD gl gs){p:Part}(h:In gs.length p.anX):AO gs p≠[]/\∀w∈AO gs p,cO w=true:=by
 refine⟨by simp[AO],fun w hw=> ?_⟩;simp only[AO,aqx,aqV,or_false] at hw;rcases hw with rfl|rfl|rfl|rfl
 ·decide
 ·exact qB (Az hg h).2
 all_goals exact pJ _
theorem afU {a:an8}(h:1<=a.kind/\a.kind<=4/\N9 a.cls/\N9 a.x/\N9 a.y):stmt gl (og s init g) (Bf a)= .ok (og s init {g with anchors:=g.anchors++[a]}):=by
 obtain⟨h1,h2,h3,h4,h5⟩:=h;obtain⟨k1,-⟩:=LU a.kind h1 h2;have hn:∀n∈[a.cls,a.x,a.y],N9 n:=by simp[h3,h4,h5]
 have he:=wS [a.cls,a.x,a.y] hn 0;rw[Bf,KH,iT,if_neg (Dk _ _ _)];simp only[aqv,aq9] at he;simp only[k1,he,(eP _ h3).2,(eP _ h4).2,(eP _ h5).2,qZ];rw[if_neg (by omega)];rfl
theorem afR {a:an8}(h:1<=a.kind/\a.kind<=4):Bf a≠[]/\∀w∈Bf a,cO w=true:=by
 refine⟨by simp[Bf],fun w hw=> ?_⟩;simp only[Bf,aqx,aqV,or_false] at hw;rcases hw with rfl|rfl|rfl|rfl|rfl
 ·decide
 ·exact(LU a.kind h.1 h.2).2
 all_goals exact pJ _
theorem agv {d:Delta}(h:N9 d.region/\N9 d.point/\N9 d.x/\N9 d.y):stmt gl (og s init g) (Bi d)= .ok (og s init {g with deltas:=g.deltas++[d]}):=by
 obtain⟨h1,h2,h3,h4⟩:=h;have hn:∀n∈[d.region,d.point,d.x,d.y],N9 n:=by simp[h1,h2,h3,h4]
 have he:=wS [d.region,d.point,d.x,d.y] hn 0;rw[Bi,Qi,lL,if_neg (Dk _ _ _)];simp only[aqv,aq9] at he;simp only[he,(eP _ h1).2,(eP _ h2).2,(eP _ h3).2,(eP _ h4).2,qZ];rfl
theorem afD (d:Delta):Bi d≠[]/\∀w∈Bi d,cO w=true:=by
 refine⟨by simp[Bi],fun w hw=> ?_⟩;simp only[Bi,aqx,aqV,or_false] at hw;rcases hw with rfl|rfl|rfl|rfl|rfl
 ·decide
 all_goals exact pJ _
theorem aeI {h:List Ins}(hk:mg h):stmt gl (og s init g) (hiL h)= .ok (og s init {g with hint:=g.hint++h}):=by obtain⟨h1,h2,h3,-⟩:=BR h hk 0;rw[hiL,TM,oI,if_neg (Dk _ _ _),h3,h1,h2,qZ];rfl
theorem agO {c:List Pt}(hc:∀p∈c,N9 p.x/\N9 p.y)(hne:c≠[]):stmt gl (og s init g) (OL c)= .ok (og s init {g with points:=g.points++c,ends:=g.ends++[((g.points.length+c.length:Nat):Int) - 1]}):=by
 obtain⟨h1,h2,h3,-⟩:=QR c hc 0;have hb:¬(c.map ry=[]\/(c.map ry).all lV=false):=by rw[h3];simp[hne]
 rw[OL,FV,gK,if_neg (Dk _ _ _),if_neg hb,h1,h2,qZ,aqs];rfl
theorem Xf (pts:List Pt)(hp:∀p∈pts,N9 p.x/\N9 p.y)(es:List Int)(fr:Nat)(done:List Int)(hfr:fr<=pts.length)(he:lW fr es pts.length)(n:B)(a:Int)(m:Bool):
  aoa gl (og s init ⟨n,a,m,pts.take fr,done,[],[],[],[]⟩) ((dL pts fr es).map OL) (og s init ⟨n,a,m,pts,done++es,[],[],[],[]⟩):=by
 induction es generalizing fr done with
 |nil=>simp only[lW] at he;subst he;rw[aqr,aqR];exact .nil _ _
 |cons e es ih=>
  obtain⟨h1,h2,h3⟩:=he;have hmem:∀p∈(pts.take (e.toNat+1)).drop fr,N9 p.x/\N9 p.y:=fun p hq=>hp p (List.mem_of_mem_take (List.mem_of_mem_drop hq))
  have hlen:((pts.take (e.toNat+1)).drop fr).length=e.toNat+1 - fr:=by rw[aq0,aqH];omega
  have hne:(pts.take (e.toNat+1)).drop fr≠[]:=fun h0=>by
   rw[h0] at hlen;simp only[ln] at hlen;omega
  rw[dL,if_neg (by omega),aqv];refine .cons (iV (by decide) (QR _ hmem 0).2.2.2) (agO hmem hne) ?_;have e1:pts.take fr++(pts.take (e.toNat+1)).drop fr=pts.take (e.toNat+1):=by have:=aqS fr (pts.take (e.toNat+1));rw[List.take_take,Nat.min_eq_left (by omega)] at this;exact this
  have e2:(((pts.take fr).length+((pts.take (e.toNat+1)).drop fr).length:Nat):Int) - 1=e:=by rw[hlen,aqH];omega
  have:=ih (e.toNat+1) (done++[e]) (by omega) h3;simp only[e1,e2];simpa using this
end
end
section
theorem abh (t:B)(h:∀(j:Nat) (s:B),opNames[j]? =some s->s≠t):qW t=0:=by rw[qW,if_neg];intro hm;obtain⟨j,hj⟩:=aqG.1 hm;exact h j t hj rfl
theorem agC (t:B)(k:Nat)(h:opNames[k]? =some t)(hl:∀(j:Nat) (s:B),j<k->opNames[j]? =some s->s≠t):qW t=(k:Int)+1:=by
 rw[qW,if_pos (aqt h)];have:opNames.findIdx (· ==t)=k:=by rw[List.findIdx_eq (aqm.1 h).1];obtain⟨hk,hg⟩:=aqm.1 h;refine⟨by simp[hg],fun j hj=> ?_⟩;have:=hl j opNames[j] hj (aqn (by omega));simpa using this
 rw[this]
theorem yL:opNames.length=39:=by decide
theorem Tm (k:Nat)(s:B)(h:opNames[k]? =some s)(w:World):(Instr.index 144 (.agg (strs opNames).toArray) (.int .i64 (k:Int))).run Tryz.prog w= .ok (.string ⟨s.toArray⟩) w:=by
 have hk:k<39:=by have:=(aqm.1 h).1;rw[yL] at this;exact this
 have hs:=strs_get h;have hk2:(k:Int)<39:=by omega
 have hk3:(0:Int)<=k:=by omega
 simp[Instr.index,go_sem,hk2,hk3,hs];omega
theorem Ve:(strs opNames).toArray.size=39:=by simp[EI,yL]
theorem FW (w:World)(t:B)(hT:aoN w 0 (strs opNames)):Calls Tryz.prog 25 #[.string ⟨t.toArray⟩] w fun e w'=>e= .returned (.tuple #[.int .i64 (qW t),.bool (qW t !=0)])/\w=w':=by
 obtain⟨ty,fz,hb⟩:=hT;have hix:=hd0 Tm;have hsz:=Ve;have hpost:Hid (∀k:Nat,(∀j s,j<k->opNames[j]? =some s->s≠t)->((opNames[k]? =some t->qW t=(k:Int)+1)/\(39<=k->qW t=0))):=fun k hl=>by
  refine⟨fun h=>agC t k h hl,fun hk=>abh t fun j s hj=>hl j s ?_ hj⟩;have:=(aqm.1 hj).1;rw[yL] at this;omega
 generalize (strs opNames).toArray=cs at*
 have OV:=hd0 (show(Tryz.prog.info? 144).map (·.size)=some cs.size by rw[hsz];kernel_rfl);clear hsz;go_enter Tryz.func25,Tryz.ntmps25
 go_wp2_with (refine wpList_load_row rfl 144 (.global 0) rfl 0 rfl ty cs fz _ hb Tryz.underlying144 rfl OV.out ?_)
 go_loop [7] (fun i=>∃k:Nat,k<=39/\i= .int .i64 k/\Hid (∀j s,j<k->opNames[j]? =some s->s≠t)) (fun i=>39 - (intOf i).toNat)
 case atStart=>exact⟨0,by omega,rfl,fun j s hj=>by omega⟩
 case round=>
  obtain⟨k,hk,rfl,hl⟩:=hrel;by_cases hlt:k<39
  ·obtain⟨s,hs⟩:∃s,opNames[k]? =some s:=⟨_,aqn (by rw[yL];exact hlt)⟩
   have hrun:=hix.out k s hs;by_cases he:s=t
   ·have hres:=hd0 ((hpost.out k hl.out).1 (by rw[hs,he]));have e1:(s==t)=true:=by simp[he]
    clear hs he;go_wp2
    go_ret2
    rw[hres.out];refine⟨?_,rfl⟩;have:(((k:Int)+1) !=0)=true:=by simp;omega
    rw[this];rfl
   have hnx:Hid (∀j s,j<k+1->opNames[j]? =some s->s≠t):=fun j s' hj hs'=>by
    by_cases hjk:j=k
    ·subst hjk;rw[hs] at hs';cases hs';exact he
    exact hl.out j s' (by omega) hs'
   have e1:(s==t)=false:=by simpa using he
   clear hs he;go_wp2
   go_round
   case rel=>exact⟨k+1,by omega,by simp,hnx⟩
   case measure=>simp[intOf];omega
  have hres:=hd0 ((hpost.out k hl.out).2 (by omega));go_wp2
  go_ret2
  rw[hres.out];exact⟨rfl,rfl⟩
theorem agP {g:anP}(h:nameB g.name=true):Gj g≠[]/\∀w∈Gj g,cO w=true:=by
 refine iV (by decide) (iV (qB h) (iV (pJ _) fun w hw=> ?_).2).2;split at hw
 ·simp only[aql] at hw;subst hw;decide
 simp at hw
theorem afT {gl:Gl}{s:PS}{g:anP}(h:nameB g.name=true)(ha:N9 g.advance)(hl:gl.lookup g.name=some s.f.anL.length):
  stmt gl s (Gj g)= .ok (og s s.f.anL ⟨g.name,g.advance,g.mark,[],[],[],[],[],[]⟩):=by
 have hv:fM gl g.name=s.f.anL.length:=by rw[fM,hl];rfl
 rw[Gj,Rf];cases hm:g.mark<;>simp[gI,Fa h,gU _ ha,(eP _ ha).2,hv,og]
def uS (gs:List anP)(all:Bool)(g:anP):List (List B):=Gj g::((dL g.points 0 g.ends).map OL++(g.parts.map (AO gs)++(g.anchors.map Bf++(g.deltas.map Bi++if all|| !g.hint.isEmpty then [hiL g.hint] else []))))
theorem Vj {gl:Gl}{gs:List anP}(hg:aoD gl gs)(all:Bool)(s:PS)(g:anP)(h:OkG gs.length g)(hl:gl.lookup g.name=some s.f.anL.length):
  aoa gl s (uS gs all g) (og s s.f.anL g):=by
 refine .cons (agP h.name) (afT h.name h.adv hl) ?_;have r1:=Xf (gl:=gl) (s:=s) (init:=s.f.anL) g.points h.pts g.ends 0 [] (nz _) h.ends g.name g.advance g.mark;rw[List.take_zero,aqX] at r1;refine r1.app ?_;have r2:=aoa.each (gl:=gl) g.parts (AO gs) (fun d=>og s s.f.anL ⟨g.name,g.advance,g.mark,g.points,g.ends,d,[],[],[]⟩) (fun p hp=>ae8 hg (h.parts p hp).1) (fun done p rest e=>afe hg (h.parts p (by simp[e])));refine r2.app ?_;have r3:=aoa.each (gl:=gl) g.anchors Bf (fun d=>og s s.f.anL ⟨g.name,g.advance,g.mark,g.points,g.ends,g.parts,d,[],[]⟩) (fun p hp=>afR ⟨(h.anch p hp).1,(h.anch p hp).2.1⟩) (fun done p rest e=>afU (h.anch p (by simp[e])));refine r3.app ?_;have r4:=aoa.each (gl:=gl) g.deltas Bi (fun d=>og s s.f.anL ⟨g.name,g.advance,g.mark,g.points,g.ends,g.parts,g.anchors,d,[]⟩) (fun p hp=>afD p) (fun done p rest e=>agv (h.an1 p (by simp[e])));refine r4.app ?_;split
 ·have:=aoa.one (gl:=gl) (UY h.hint (by decide:cO sS=true)) (aeI (gl:=gl) (s:=s) (init:=s.f.anL) (g:=⟨g.name,g.advance,g.mark,g.points,g.ends,g.parts,g.anchors,g.deltas,[]⟩) h.hint);exact this
 rename_i hn;have e:g.hint=[]:=by
  cases hh:g.hint with
  |nil=>rfl
  |cons a r=>rw[hh] at hn;simp at hn
 have e2:g=⟨g.name,g.advance,g.mark,g.points,g.ends,g.parts,g.anchors,g.deltas,[]⟩:=by conv=>rhs;rw[<-e]
 conv=>arg 4;rw[e2]
 exact .nil _ _
theorem SL {gl:Gl}{gs:List anP}(hg:aoD gl gs)(all:Bool)(h:∀g∈gs,OkG gs.length g)(s:PS)(hs:s.f.anL=[]):aoa gl s (gs.flatMap (uS gs all)) {s with f:= {s.f with anL:=gs}} :=by
 have key:=aoa.apl (gl:=gl) gs (uS gs all) (fun d=> {s with f:= {s.f with anL:=d}}) (fun done g rest e=> ?_)
 ·have e:({s with f:= {s.f with anL:=[]}} :PS)=s:=by rw[<-hs]
  rw[e] at key;exact key
 exact Vj hg all {s with f:= {s.f with anL:=done}} g (h g (by simp[e])) (hg.at' done.length g (by rw[e];simp))
theorem YH {gl:Gl}(l:List aoA)(h:∀a∈l,nameB a.name=true/\N9 a.min'/\N9 a.aou/\N9 a.max')(s:PS)(hs:s.f.anR=[]):aoa gl s (l.map xN) {s with f:= {s.f with anR:=l}} :=by
 have key:=aoa.each (gl:=gl) l xN (fun d=> {s with f:= {s.f with anR:=d}}) (fun a ha=>afy (h a ha).1) (fun done a rest e=>afd (h a (by simp[e])));have e:({s with f:= {s.f with anR:=[]}} :PS)=s:=by rw[<-hs]
 rw[e] at key;exact key
theorem XK {gl:Gl}(l:List Region)(h:∀r∈l,∀t∈r.anT,N9 t.start/\N9 t.peak/\N9 t.stop)(s:PS)(hs:s.f.regions=[]):aoa gl s (l.map Bh) {s with f:= {s.f with regions:=l}} :=by
 have key:=aoa.each (gl:=gl) l Bh (fun d=> {s with f:= {s.f with regions:=d}}) (fun a ha=>agl a) (fun done a rest e=>afS (h a (by simp[e])));have e:({s with f:= {s.f with regions:=[]}} :PS)=s:=by rw[<-hs]
 rw[e] at key;exact key
theorem We {gl:Gl}(l:List (List Ins))(h:∀p∈l,mg p)(s:PS)(hs:s.f.funcs=[]):aoa gl s (l.map LY) {s with f:= {s.f with funcs:=l}} :=by
 have key:=aoa.each (gl:=gl) l LY (fun d=> {s with f:= {s.f with funcs:=d}}) (fun a ha=>UY (h a ha) (by decide)) (fun done a rest e=>afi (h a (by simp[e])));have e:({s with f:= {s.f with funcs:=[]}} :PS)=s:=by rw[<-hs]
 rw[e] at key;exact key
theorem VK {gl:Gl}{gs:List anP}(hg:aoD gl gs)(l:List Chr)(h:∀c∈l,N9 c.rune/\In gs.length c.anX)(s:PS)(hs:s.f.chars=[]):aoa gl s (l.map (yf gs)) {s with f:= {s.f with chars:=l}} :=by
 have key:=aoa.each (gl:=gl) l (yf gs) (fun d=> {s with f:= {s.f with chars:=d}}) (fun a ha=>aeX hg (h a ha).2) (fun done a rest e=>afk hg (h a (by simp[e])));have e:({s with f:= {s.f with chars:=[]}} :PS)=s:=by rw[<-hs]
 rw[e] at key;exact key
theorem VL {gl:Gl}(l:List aon)(h:∀x∈l,nameB x.name=true/\∀n∈x.anM,N9 n)(s:PS)(hs:s.f.features=[]):aoa gl s (l.map Dn) {s with f:= {s.f with features:=l}} :=by
 have key:=aoa.each (gl:=gl) l Dn (fun d=> {s with f:= {s.f with features:=d}}) (fun a ha=>agx (h a ha).1) (fun done a rest e=>af1 (h a (by simp[e])));have e:({s with f:= {s.f with features:=[]}} :PS)=s:=by rw[<-hs]
 rw[e] at key;exact key
def BH (gs:List anP)(ws:List (List Int)->List B)(l:Lookup):List (List B):=Gq l::l.rules.map (fun r=>mF::(ws r.back++[47]::ws r.in'++[47]::ws r.ahead++[62]::outW gs l.kind r))
theorem Q7 {gl:Gl}{gs:List anP}(hg:aoD gl gs)(hn:gs.length<=1000)(l:List Lookup)(h:∀x∈l,1<=x.kind/\x.kind<=8/\∀r∈x.rules,OkR gs.length x.kind r)(ws:List (List Int)->List B)
  (hw:∀x:List (List Int),(∀y∈x,∀n∈y,In gs.length n)->DU gs (ws x) x/\∀w∈ws x,cO w=true) (s:PS) (hs:s.f.anM=[]):aoa gl s (l.flatMap (BH gs ws)) {s with f:= {s.f with anM:=l}} :=by
 have key:=aoa.apl (gl:=gl) l (BH gs ws) (fun d=> {s with f:= {s.f with anM:=d}}) (fun done x rest e=>by
  obtain⟨h1,h2,h3⟩:=h x (by simp[e]);exact Tv hg hn {s with f:= {s.f with anM:=done}} x ⟨h1,h2⟩ h3 ws hw)
 have e:({s with f:= {s.f with anM:=[]}} :PS)=s:=by rw[<-hs]
 rw[e] at key;exact key
theorem YL {gl:Gl}{u:Int}(h:N9 u):aoa gl ps0 [[oH,aN u]] {ps0 with unit:=true,f:= {f0 with unit:=u}} :=by refine .one (iV (by decide) (by simpa using pJ u)) ?_;rw[Uf];simp[mi,gU _ h,(eP _ h).2,ps0,f0]
def qO (f:Fnt):List (List B):=[[oH,aN f.unit]]++(f.anR.map xN++(f.regions.map Bh++(f.cvt.map (fun n=>[pz,aN n])++(f.funcs.map LY++(f.anM.flatMap (BH f.anL (gZ f.anL))++(f.anL.flatMap (uS f.anL true)++(f.chars.map (yf f.anL)++f.features.map Dn)))))))
theorem Qw {gl:Gl}{f:Fnt}(h:aoR f)(hg:aoD gl f.anL):aoa gl ps0 (qO f) ⟨f,true,[]⟩:=by
 refine(YL h.unit).app ?_;refine(YH f.anR h.anR _ rfl).app ?_;refine(XK f.regions h.regs _ rfl).app ?_;have rc:∀s:PS,s.f.cvt=[]->aoa gl s (f.cvt.map (fun n=>[pz,aN n])) {s with f:= {s.f with cvt:=f.cvt}} :=fun s hs=>by
  have key:=aoa.each (gl:=gl) f.cvt (fun n=>[pz,aN n]) (fun d=> {s with f:= {s.f with cvt:=d}}) (fun n _=>iV (by decide) (by simpa using pJ n)) (fun done n rest e=>by
   have:=af2 (gl:=gl) (s:= {s with f:= {s.f with cvt:=done}}) (l:=[n]) (by simpa using h.cvt n (by simp[e]));simpa using this)
  have e:({s with f:= {s.f with cvt:=[]}} :PS)=s:=by rw[<-hs]
  rw[e] at key;exact key
 refine(rc _ rfl).app ?_;refine(We f.funcs h.funcs _ rfl).app ?_;refine(Q7 hg h.few f.anM h.anM (gZ f.anL) (fun x hx=>⟨acl hg x hx,fun w hw=>(yD hg x hx w hw).2.2⟩) _ rfl).app ?_;refine(SL hg true h.anL _ rfl).app ?_;refine(VK hg f.chars h.chars _ rfl).app ?_;exact VL f.features h.an3 _ rfl
def vF (L:List (List B)):Prop:=∀l∈L,∀w r,l=w::r->w≠eQ
theorem mf (L R:List (List B))(h:vF L)(n:Nat):bf n (L++R)=bf n R:=by
 induction L with
 |nil=>rfl
 |cons l L ih=>
  have:=ih (fun x hx=>h x (by simp[hx]));cases l with
  |nil=>rw[aqC,vI];exact this
  |cons w r=>rw[aqC,fK,if_neg (h (w::r) (by simp) w r rfl)];exact this
theorem zh {a b:List (List B)}(ha:vF a)(hb:vF b):vF (a++b):=fun l hl=>by
 rw[aqp] at hl;rcases hl with hl|hl
 ·exact ha l hl
 exact hb l hl
theorem nG {α:Type}(l:List α)(f:α->List B)(h:∀x∈l,∀w r,f x=w::r->w≠eQ):vF (l.map f):=fun y hy=>by
 rw[aqQ] at hy;obtain⟨x,hx,rfl⟩:=hy;exact h x hx
theorem aaQ {α:Type}(l:List α)(f:α->List (List B))(h:∀x∈l,vF (f x)):vF (l.flatMap f):=fun y hy=>by
 rw[aqZ] at hy;obtain⟨x,hx,hy⟩:=hy;exact h x hx y hy
def l7:Nat->List anP->Gl
 |_,[]=>[]
 |n,g::gs=>(g.name,n)::l7 (n+1) gs
theorem N8 (G:List anP)(all:Bool)(gs:List anP)(hn:∀g∈gs,nameB g.name=true)(R:List (List B))(hR:vF R)(n:Nat):bf n (gs.flatMap (uS G all)++R)=l7 n gs:=by
 induction gs generalizing n with
 |nil=>simpa [l7,bf] using mf R [] hR n
 |cons g gs ih=>
  have hno:vF ((dL g.points 0 g.ends).map OL++(g.parts.map (AO G)++(g.anchors.map Bf++(g.deltas.map Bi++if all|| !g.hint.isEmpty then [hiL g.hint] else [])))):=by
   refine zh (nG _ _ fun x _ w r e=> ?_) (zh (nG _ _ fun x _ w r e=> ?_) (zh (nG _ _ fun x _ w r e=> ?_) (zh (nG _ _ fun x _ w r e=> ?_) ?_)))
   ·injection e with e _;rw[<-e];decide
   ·injection e with e _;rw[<-e];decide
   ·injection e with e _;rw[<-e];decide
   ·injection e with e _;rw[<-e];decide
   split
   ·intro l hl w r e;simp only[aql] at hl;subst hl;injection e with e _
    rw[<-e];decide
   intro l hl;simp at hl
  rw[aqD,uS,aqC,aqC,Gj,fK,if_pos rfl,yV];simp only[hn g (by simp),if_true];rw[aqy,mf _ _ hno,ih (fun x hx=>hn x (by simp[hx]))];rfl
theorem aaC (gs:List anP)(h:(gs.map (·.name)).Nodup)(n:Nat)(i:Nat)(g:anP)(hi:gs[i]? =some g):(l7 n gs).lookup g.name=some (n+i):=by
 induction gs generalizing n i with
 |nil=>simp at hi
 |cons a gs ih=>
  rw[aqv,List.nodup_cons] at h;cases i with
  |zero=>simp only[aqw,aqM] at hi;subst hi;simp[l7,List.lookup]
  |succ i=>
   simp only[aqz] at hi;have hne:g.name≠a.name:=fun e=>h.1 (by rw[<-e];exact List.mem_map_of_mem (aqt hi))
   have hb:(g.name==a.name)=false:=by simpa using hne
   rw[l7,List.lookup,hb];show(l7 (n+1) gs).lookup g.name=_;rw[ih h.2 (n+1) i hi];congr 1
   omega
theorem af5 (gs:List anP)(ws:List (List Int)->List B)(l:List Lookup):vF (l.flatMap (BH gs ws)):=aaQ _ _ fun x _=>by
 intro y hy w r e;rw[BH,aqx,aqQ] at hy;rcases hy with rfl|⟨q,_,rfl⟩
 ·injection e with e _;rw[<-e];decide
 injection e with e _;rw[<-e];decide
theorem afZ (l:List aoA):vF (l.map xN):=nG _ _ fun x _ w r e=>by injection e with e _;rw[<-e];decide
theorem ae6 (l:List Region):vF (l.map Bh):=nG _ _ fun x _ w r e=>by injection e with e _;rw[<-e];decide
theorem agd (l:List (List Ins)):vF (l.map LY):=nG _ _ fun x _ w r e=>by injection e with e _;rw[<-e];decide
theorem afu (gs:List anP)(l:List Chr):vF (l.map (yf gs)):=nG _ _ fun x _ w r e=>by injection e with e _;rw[<-e];decide
theorem aeK (l:List aon):vF (l.map Dn):=nG _ _ fun x _ w r e=>by injection e with e _;rw[<-e];decide
theorem agN (u:B):vF [[oH,u]]:=fun l hl w r e=>by
 simp only[aql] at hl;subst hl;injection e with e _
 rw[<-e];decide
theorem QN {f:Fnt}(h:aoR f):aoD (bf 0 (qO f)) f.anL:=by
 have e:bf 0 (qO f)=l7 0 f.anL:=by rw[qO,mf _ _ (agN _),mf _ _ (afZ _),mf _ _ (ae6 _),mf _ _ (nG _ _ fun x _ w r e=>by injection e with e _;rw[<-e];decide),mf _ _ (agd _),mf _ _ (af5 _ _ _)];exact N8 _ _ _ (fun g hg=>(h.anL g hg).name) _ (zh (afu _ _) (aeK _)) 0
 rw[e];exact⟨fun i g hi=>by rw[aaC _ h.apart 0 i g hi,aq2],fun g hg=>(h.anL g hg).name⟩
theorem TC (L:List (List B))(f:Fnt)(b:Bool)(c:List (B×List Int))(h:aoa (bf 0 L) ps0 L ⟨f,b,c⟩):dw (L.flatMap gY)= .ok f:=by rw[dw,Xr L h.1,Ye,h.2 1];rfl
theorem abg {α:Type}(l:List α)(f:α->List B):(l.map f).flatMap gY=l.flatMap (fun x=>gY (f x)):=by
 induction l with
 |nil=>rfl
 |cons a r ih=>simp[ih]
def DW (f:Fnt):B:=(qO f).flatMap gY
theorem PE {f:Fnt}(h:aoR f):dw (DW f)= .ok f:=TC _ _ _ _ (Qw h (QN h))
def aoc (e size:Nat)(w:World)(rb p:Nat)(err:Int)(n:Nat)(xs:List Value)(v:Value)(wr:World):Prop:=∃A c,v= .slice A n c/\wr.ownsRow w.heap.size e size (.slice A n c) n xs/\Rdr wr rb p err/\w.grownBy wr (some rb)
def Oy (e size:Nat)(w:World)(rb p:Nat)(err:Int)(n:Nat)(xs:List Value)(en:Ending)(w':World):Prop:=∃v,en= .returned v/\aoc e size w rb p err n xs v w'
theorem aoc.start {e size:Nat}{w w1:World}{rb p:Nat}{err:Int}(h:Rdr w1 rb p err)(hg:w.grownBy w1 (some rb)):aoc e size w rb p err 0 [] (.slice none 0 0) w1:=⟨none,0,rfl,World.ownsRow_nil _ _ _ _,h,hg⟩
theorem bZ {w:World}{base e size n g:Nat}{v:Value}{xs:List Value}{t:TypeId}{cs:Array Value}(h:w.ownsRow base e size v n xs)(hb:Bk w g t cs)(hne:t≠e):v.ownBlock=none\/v.ownBlock≠some g:=by
 cases hv:v.ownBlock with
 |none=>exact .inl rfl
 |some k=>
  refine .inr (fun e'=> ?_);injection e' with e'
  subst e';obtain⟨cur,hk⟩:=bC h hv;exact hne (bY hb hk).1
theorem aoc.next {e size:Nat}{w wr w1 w2:World}{rb p:Nat}{err err':Int}{n n':Nat}{xs xs':List Value}{A A2:Option Addr}{c c2:Nat}(h1:wr.ownsRow w.heap.size e size (.slice A n c) n xs)(h2:Rdr wr rb p err)(h3:w.grownBy wr (some rb))
  (hr:Rdr w1 rb p err') (hg:wr.grownBy w1 (some rb)) (ho:w2.ownsRow w.heap.size e size (.slice A2 n' c2) n' xs') (hg2:w1.grownBy w2 (Value.slice A n c).ownBlock) (hne:QA≠e):aoc e size w rb p err' n' xs' (.slice A2 n' c2) w2:=by
 have ho1:=h1.kept hg (bZ h1 h2 hne);exact⟨A2,c2,rfl,ho,Bk.grown hr hg2 ho1 hne,KE (cZ h3 hg) hg2 (fun g e=>(h1.lt g e).1)⟩
theorem J4 {w w':World}{rb p:Nat}{err:Int}{A:Option Addr}{n:Nat}{cs:List Value}(h:RdT w 124 A n 3 cs)(hr:Rdr w rb p err)(hg:w.grownBy w' (some rb)):RdT w' 124 A n 3 cs:=h.grown hg (fun g e=>by cases e;exact⟨_,_,hr,by decide⟩)
theorem yX {w wr:World}{rb p:Nat}{err:Int}{A:Option Addr}{n k:Nat}{ws:List P3}(hw:RdT w 124 A n 3 (dD ws))(hr:Rdr w rb p err)(hg:w.grownBy wr (some rb))(hk:k<n):
  ∃b o x y z,A=some ⟨b,o,none⟩/\Hid (ws[k]? =some (x,y,z))/\wr.cell? ⟨b,o+k*3,none⟩=some (.int .i64 x)/\wr.cell? ⟨b,o+k*3+1,none⟩=some (.int .i64 y)/\wr.cell? ⟨b,o+k*3+2,none⟩=some (.string ⟨z.toArray⟩):=by
 obtain⟨b,o,x,y,z,e,-,hp,q1,q2,q3⟩:=(J4 hw hr hg).rd.at3 hk;exact⟨b,o,x,y,z,e,hp,q1,q2,q3⟩
def ah (ws:List P3):List B:=ws.map (·.2.2)
theorem iq (ws:List P3):(ah ws).length=ws.length:=by simp[ah]
theorem uA {ws:List P3}{k:Nat}{x y:Int}{z:B}(h:ws[k]? =some (x,y,z)):(ah ws).take (k+1)=(ah ws).take k++[z]:=by obtain⟨hk,hg⟩:=aqm.1 h;rw[aqB (by rw[iq];exact hk)];simp[ah,hg]
theorem Rdr.alloc {w:World}{rb p:Nat}{err:Int}(h:Rdr w rb p err)(o:Obj):Rdr (w.alloc o) rb p err:=Bk.alloc h o
theorem XW {l m:List B}{z:B}(h:m=l++[z]):aP (m.map aI)=aP (l.map aI)++[.int .i64 (aI z)]:=by subst h;simp[aP,cI]
theorem Vu {l m:List B}{z:B}(err:Int)(h:m=l++[z]):fB err m=aT (fB err l) z:=by subst h;simp[fB]
theorem vM (w:World)(rb p:Nat)(err:Int)(A:Option Addr)(n c:Nat)(ws:List P3)(hR:Rdr w rb p err)(hw:RdT w 124 A n 3 (dD ws))(hl:∀x∈ws,x.2.2.length<=100000000)(hn:n<=1000000000):
  Calls Tryz.prog 124 #[.pointer (some ⟨rb,0,none⟩),.slice A n c] w (Oy 3 1 w rb p (fB err (ah ws)) n (aP ((ah ws).map aI))):=by
 have hwl:=hd0 hw.rd.aoE;have HR:=hd0 hR;have HW:=hd0 hw;have HL:=hd0 hl;clear hR hw hl;go_enter Tryz.func124,Tryz.ntmps124
 go_wp2;go_loopw [5,10] (fun v i wr=>∃k:Nat,k<=n/\i= .int .i64 k/\aoc 3 1 w rb p (fB err ((ah ws).take k)) k (aP (((ah ws).take k).map aI)) v wr) (fun _ i _=>n - (intOf i).toNat)
 case atStart=>exact⟨0,nz _,rfl,aoc.start HR.out (World.grownBy.refl _ _)⟩
 case round=>
  obtain⟨k,hk,rfl,A4,c4,rfl,ho,hr,hg⟩:=hrel;by_cases hlt:k<n
  ·obtain⟨b,o,x,y,z,rfl,hp,q1,q2,q3⟩:=yX HW.out HR.out hg hlt;have hz:z.length<=100000000:=HL.out _ (uf hp.out);have hs:=uA hp.out;have hs1:=hd0 (XW hs);have hs2:=hd0 (Vu err hs);have hr0:=hd0 hr;have hn1:=hd0 (dP _ rb p _ z (hr.alloc (.cells #[.int .i64 x,.int .i64 y,.string ⟨z.toArray⟩] 124)) hz);have hg0:wr.grownBy (wr.alloc (.cells #[.int .i64 x,.int .i64 y,.string ⟨z.toArray⟩] 124)) (some rb):=World.grownBy_alloc _ _ _;have hsz:=hg.size;generalize aP (((ah ws).take k).map aI)=xs at*
   clear hp hs hz hr;go_wp2_with (first
    |(go_at_call 122;refine hn1.out.mono ?_;rintro e w1 ⟨rfl,hr1,hg1⟩;have hg2:=cZ hg0 hg1;have z1:=hg2.size)
    |(at_builtin;refine iQ iO rfl (.tmp 14) (.tmp 19) rfl w1 _ rfl w.heap.size k c4 A4 xs #[.int .i64 (aI z)] rfl rfl rfl (ho.kept hg2 (bZ ho hr0.out (by decide))) (by simp[Value.oneCell']) (by omega) (by omega) ?_;intro A5 c5 w2 ho2 hg3 _))
   go_roundw
   case rel=>exact⟨k+1,by omega,by simp,by rw[hs1.out,hs2.out];exact aoc.next ho hr0.out hg hr1 hg2 ho2 hg3 (by decide)⟩
   case measure=>simp[intOf];omega
  obtain rfl:k=n:=by omega
  have ht:Hid ((ah ws).take k=ah ws):=by show _=_;exact aqE (by rw[iq,hwl.out];exact ag _)
  rw[ht.out] at ho hr;go_wp2;go_ret
  exact⟨_,rfl,A4,c4,rfl,ho,hr,hg⟩
end
end Go.Proofs.YtkijckccfookeaaGreatDoor
