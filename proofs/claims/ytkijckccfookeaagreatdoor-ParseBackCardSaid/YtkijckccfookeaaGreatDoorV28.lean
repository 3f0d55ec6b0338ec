/- Lemmas. -/
import Derived.Test.YtkijckccfookeaaGreatDoorMkPiece
import Derived.Test.YtkijckccfookeaaGreatDoorV25
set_option linter.unusedVariables false
set_option linter.unusedSimpArgs false
set_option maxRecDepth 100000
set_option maxHeartbeats 32000000
namespace Go.Proofs.YtkijckccfookeaaGreatDoor
open Go.RowKit
section
theorem acZ {α:Type}{R:Rel α}{size:Nat}{w:World}{S:Bs}{c c':List Value}{xs:List α}(hdet:∀cs cs' x,R w S cs x->R w S cs' x->cs=cs')(h:Fl R size w S c xs)(h':Fl R size w S c' xs)(hs:0<size):c=c':=by
 apply List.ext_getElem?;intro i;by_cases hi:i<xs.length*size
 ·have hk:i / size<xs.length:=by
   rw[Nat.div_lt_iff_lt_mul hs];exact hi
  have hx:xs[i / size]? =some xs[i / size]:=aqn hk;obtain⟨cs,r1,l1,g1⟩:=h.2 _ _ hx;obtain⟨cs',r2,l2,g2⟩:=h'.2 _ _ hx;obtain rfl:=hdet _ _ _ r1 r2;have hj:i % size<cs.length:=by rw[l1];exact Nat.mod_lt _ hs
  have hu:cs[i % size]? =some cs[i % size]:=aqn hj;have e:i / size*size+i % size=i:=by rw[Nat.mul_comm];exact Nat.div_add_mod i size
  have a:=g1 _ _ hu;have b:=g2 _ _ hu;rw[e] at a b;rw[a,b]
 rw[aqL (by rw[h.1];omega),aqL (by rw[h'.1];omega)]
theorem adt {w:World}{S:Bs}{c:List Value}{xs:List Ins}(h:Fl an5 2 w S c xs):c=jU xs:=
 acZ (fun _ _ _ a b=>a.1.trans b.1.symm) h (Kv w S xs (fun i hi=>by
  obtain⟨k,hk⟩:=aqG.1 hi;obtain⟨cs,r,-⟩:=h.2 k i hk;exact r.2)) (by omega)
theorem adg {w:World}{ts:List TypeId}{b:Nat}{A:Option Addr}{xs:List Ins}(h:Sl an5 2 w (TS ts b w) A xs):Rd w w.heap.size A xs.length 2 (jU xs):=by
 obtain⟨c,h1,h2⟩:=h.rdM TS.lt
 rwa [adt h1] at h2
theorem adV {a b:List Ins}(h:mg a)(k:mg b):mg (a++b):=fun x hx=>by
 rw[aqp] at hx;rcases hx with hx|hx
 ·exact h x hx
 exact k x hx
theorem UX (w:World)(m:Nat)(fs:Nat->Value)(lp:Int)(n fu mo:Nat)(h:Mk w m fs lp)(hlp:0<=lp/\lp<=10)(hn:n<=1000)(hfu:fu<=1000)(hm1:1<=mo)(uC:mo<=6):Calls Tryz.prog 60 #[.pointer (some ⟨m,0,none⟩),.int .i64 n,.int .i64 fu,.int .i64 mo] w (Dh w m fs 45):=by
 have hmw:=h.lt;have H:=hd0 h;have HL:=hd0 hlp;clear h hlp;go_enter Tryz.func60,Tryz.ntmps60
 go_wp2_with fail
 refine(aC w m fs lp mo H.out hm1 (by omega)).mono ?_;rintro e w1 ⟨x,hx,rfl,hk1,hv1⟩;have H1:=hd0 hk1;have V1:=hd0 hv1;clear hk1 hv1 H;go_wp2_with fail
 go_loopw [9,11] (fun o i wr=>∃(k:Nat) (p:List Ins) (A:Option Addr) (c:Nat) (l:Int),k<=x/\i= .int .i64 k/\o= .slice A p.length c/\wr.ownsRow w.heap.size pq 2 (.slice A p.length c) p.length (jU p)/\Hid (mg p/\p.length<=9*k/\0<=l/\l<=10)/\Hid (Mk wr m fs l)/\Hid (Mv m w wr)) (fun _ i _=>x - (intOf i).toNat)
 case atStart=>exact⟨0,[],none,0,lp,nz _,rfl,rfl,World.ownsRow_nil _ _ _ _,hd0 ⟨iF,by simp,HL.out⟩,H1,V1⟩
 case round=>
  obtain⟨wa,rfl⟩:∃x,x=wr:=⟨_,rfl⟩
  obtain⟨k,p,A,c,l,hk,rfl,rfl,ho,hp,HM,HV⟩:=hrel;have HO:=hd0 ho;have hpl:p.length<=100:=by have:=hp.out.2.1;omega
  have hz:=HV.out.size;clear ho;by_cases hlt:k<x
  ·go_wp2_with fail
   refine(aaq wa m fs l n fu HM.out hp.out.2.2 hn hfu).mono ?_;rintro e w2 ⟨q,A2,c2,l2,hq,xA,hl2,rfl,hqc,hs2,hm2,hv2⟩;have hO2:=(Sp.next HM.out hv2).own HO.out (by decide);have hR2:=adg hs2;have wW:=gy HV.out hv2;have hz2:=wW.size;have sD:=hd0 hm2;have xO:=hd0 wW;clear hs2 hm2 hv2 wW;go_wp2_with (at_builtin;refine G5 Ea rfl (.tmp 20) (.tmp 24) rfl w2 w.heap.size p.length c A (jU p) w2.heap.size A2 q.length c2 (jU q) rfl rfl hO2 hR2 (XT q) (by omega) hz2 ?_;intro A5 c5 w5 h5 g5 l5;have FM:=hd0 h5;have Be:=hd0 g5;clear h5 g5 l5)
   have Rj:=hd0 ((Sp.push hO2 (show m<=w.heap.size by omega) Be.out).mk sD.out (by decide));have HV5:=hd0 (kE xO.out hO2 (ag _) Be.out);have QE:Hid (w5.ownsRow w.heap.size pq 2 (.slice A5 (p++q).length c5) (p++q).length (jU (p++q))):=(by rw[az,Zn];exact FM.out)
   have vG:Hid (mg (p++q)/\(p++q).length<=9*(k+1)/\0<=l2/\l2<=10):=hd0 ⟨adV hp.out.1 hq,by rw[az];have:=hp.out.2.1;omega,hl2⟩;go_roundw
   case rel=>exact⟨k+1,p++q,A5,c5,l2,by omega,by simp,by simp,QE.out,vG,Rj,HV5⟩
   case measure=>simp[intOf];omega
  go_wp2_with fail
  go_ret
  exact⟨p,A,c,l,hp.out.1,by have:=hp.out.2.1;omega,hp.out.2.2,rfl,vZ HO.out,dJ HO.out (Kv _ _ p (Ug hp.out.1)) (by simp) (ag _) (by omega),HM.out,HV.out⟩
def afX (w:World)(m:Nat)(fs:Nat->Value)(lp:Int)(G:Nat)(e:Ending)(w':World):Prop:=∃(s:List Int) (A:Option Addr) (c:Nat),aoG G s/\1<=s.length/\e= .returned (.slice A s.length c)/\Sl anO 1 w' (TS [aY] w.heap.size w') A s/\Mk w' m fs lp/\Mv m w w'
theorem In.i64 {G:Nat}(hG:G<=1000){n:Int}(h:In G n):I64 n:=by obtain⟨a,b⟩:=h;unfold I64;omega
theorem qX (w:World)(m:Nat)(fs:Nat->Value)(lp:Int)(G:Nat)(Ag:Option Addr)(cg:Nat)(h:Mk w m fs lp)(hf:fs 1= .slice Ag G cg)(h1:1<=G)(hG:G<=1000):Calls Tryz.prog 150 #[.pointer (some ⟨m,0,none⟩)] w (afX w m fs lp G):=by
 have hmw:=h.lt;have qg:w.cell? ⟨m,3,none⟩=some (.slice Ag G cg):=by have:=h.cells.1 1 (by omega);rw[hf] at this;exact this
 have H:=hd0 h;clear h hf;go_enter Tryz.func150,Tryz.ntmps150
 go_wp2_with fail
 refine(aC w m fs lp G H.out h1 (by omega)).mono ?_;rintro e w1 ⟨a,ha,rfl,hk1,hv1⟩;have H1:=hd0 hk1;have V1:=hd0 hv1;clear hk1 hv1 H qg;go_wp2_with fail
 go_loopw [5,6] (fun o i wr=>∃(k:Nat) (s:List Int) (A:Option Addr) (c:Nat),k<=G/\i= .int .i64 k/\o= .slice A s.length c/\s.length<=4/\wr.ownsRow w.heap.size aY 1 (.slice A s.length c) s.length (aP s)/\Hid (aoG G s/\1<=s.length/\∀x∈s,x<k)/\Hid (Mk wr m fs lp)/\Hid (Mv m w wr)) (fun _ i _=>G - (intOf i).toNat)
 case atStart=>have hb:Below w1.heap.size w1 (w1.alloc (.cells #[.int .i64 a] aY)):=(aqk _ _).alloc (ag _) _;refine⟨a+1,[(a:Int)],some ⟨w1.heap.size,0,none⟩,1,by omega,by simp,rfl,by simp,?_,hd0 ⟨aoG.one ⟨by omega,by omega⟩,by simp,fun x hx=>by simp only[aql] at hx;omega⟩,hd0 (H1.out.below hb),hd0 (jM V1.out hb)⟩;exact yE w1 w.heap.size aY 1 1 #[.int .i64 a] V1.out.size rfl (by omega)
 case round=>
  obtain⟨wa,rfl⟩:∃x,x=wr:=⟨_,rfl⟩
  obtain⟨k,s,A,c,hk,rfl,rfl,hs4,ho,hs,HM,HV⟩:=hrel;have HO:=hd0 ho;clear ho;by_cases hlt:k<G
  ·by_cases hl4:s.length<4
   ·go_wp2_with fail
    refine(aC wa m fs lp 3 HM.out (by omega) (by omega)).mono ?_;rintro e w2 ⟨y,hy,rfl,hm2,hv2⟩;have hO2:=(Sp.next HM.out hv2).own HO.out (by decide);have sD:=hd0 hm2;have wW:=gy HV.out hv2;have hz2:=wW.size;have xO:=hd0 wW;clear hm2 hv2 wW;by_cases hy0:y=0
    ·have e0:((y:Int)==0)=true:=by simp;omega
     have HS2:Hid (aoG G (s++[(k:Int)])/\1<=(s++[(k:Int)]).length/\∀x∈s++[(k:Int)],x<((k+1:Nat):Int)):=hd0 ⟨hs.out.1.snoc ⟨by omega,by omega⟩ hs.out.2.2 hl4,by simp,fun x hx=>by
      rw[aqp,aql] at hx;rcases hx with hx|rfl
      ·have:=hs.out.2.2 x hx;omega
      omega⟩
     clear hy0;go_wp2_with (at_builtin;refine iQ iO rfl (.tmp 33) (.tmp 35) rfl w2 w2.heap.size rfl w.heap.size s.length c A (aP s) #[.int .i64 k] rfl rfl rfl hO2 (by simp[Value.oneCell']) (by omega) hz2 ?_;intro A5 c5 w5 h5 g5 l5;have FM:=hd0 h5;have Be:=hd0 g5;clear h5 g5 l5)
     have Rj:=hd0 ((Sp.push hO2 (show m<=w.heap.size by omega) Be.out).mk sD.out (by decide));have HV5:=hd0 (kE xO.out hO2 (ag _) Be.out);have QE:Hid (w5.ownsRow w.heap.size aY 1 (.slice A5 (s++[(k:Int)]).length c5) (s++[(k:Int)]).length (aP (s++[(k:Int)]))):=hd0 (by simpa [aP,cI] using FM.out);go_roundw
     case rel=>exact⟨k+1,s++[(k:Int)],A5,c5,by omega,by simp,by simp,by simp;omega,QE.out,HS2,Rj,HV5⟩
     case measure=>simp[intOf];omega
    have e0:((y:Int)==0)=false:=by simp;omega
    have GG:=hd0 hO2;have HS2:Hid (aoG G s/\1<=s.length/\∀x∈s,x<((k+1:Nat):Int)):=hd0 ⟨hs.out.1,hs.out.2.1,fun x hx=>by have:=hs.out.2.2 x hx;omega⟩;clear hy0 hO2;go_wp2_with fail
    go_roundw
    case rel=>exact⟨k+1,s,A,c,by omega,by simp,rfl,hs4,GG.out,HS2,sD,xO⟩
    case measure=>simp[intOf];omega
   go_wp2_with fail
   go_ret
   exact⟨s,A,c,hs.out.1,hs.out.2.1,rfl,dJ HO.out (jH _ _ s (fun n hn=>In.i64 hG (hs.out.1.set.2 n hn))) (by simp) (ag _) (by omega),HM.out,HV.out⟩
  go_wp2_with fail
  go_ret
  exact⟨s,A,c,hs.out.1,hs.out.2.1,rfl,dJ HO.out (jH _ _ s (fun n hn=>In.i64 hG (hs.out.1.set.2 n hn))) (by simp) (ag _) (by omega),HM.out,HV.out⟩
abbrev tRow:TypeId:=22
def abM (w:World)(m:Nat)(fs:Nat->Value)(lp:Int)(G:Nat)(e:Ending)(w':World):Prop:=∃(s:List (List Int)) (A:Option Addr) (c:Nat),anW G 2 s/\e= .returned (.slice A s.length c)/\Sl anN 1 w' (TS [aY,tRow] w.heap.size w') A s/\Mk w' m fs lp/\Mv m w w'
theorem iD (w:World)(m:Nat)(fs:Nat->Value)(lp:Int)(G:Nat)(Ag:Option Addr)(cg:Nat)(h:Mk w m fs lp)(hf:fs 1= .slice Ag G cg)(h1:1<=G)(hG:G<=1000):Calls Tryz.prog 151 #[.pointer (some ⟨m,0,none⟩),.int .i64 2] w (abM w m fs lp G):=by
 have hmw:=h.lt;have H:=hd0 h;have HF:=hd0 hf;clear h hf;go_enter Tryz.func151,Tryz.ntmps151
 go_wp2_with fail
 refine(aC w m fs lp 3 H.out (by omega) (by omega)).mono ?_;rintro e w1 ⟨x,hx,rfl,hk1,hv1⟩;have H1:=hd0 hk1;have V1:=hd0 hv1;clear hk1 hv1 H;go_wp2_with fail
 go_loopw [5,7] (fun o i wr=>∃(k:Nat) (s:List (List Int)) (cs:List Value) (A:Option Addr) (c:Nat),k<=x/\i= .int .i64 k/\o= .slice A s.length c/\s.length=k/\wr.ownsRow w.heap.size tRow 1 (.slice A s.length c) s.length cs/\Hid (Fl anN 1 wr (TS [aY] w.heap.size wr) cs s)/\Hid (∀r∈s,aoG G r)/\Hid (Mk wr m fs lp)/\Hid (Mv m w wr)) (fun _ i _=>x - (intOf i).toNat)
 case atStart=>exact⟨0,[],[],none,0,nz _,rfl,rfl,rfl,World.ownsRow_nil _ _ _ _,hd0 Fl.nil,hd0 (by simp),H1,V1⟩
 case round=>
  obtain⟨wa,rfl⟩:∃x,x=wr:=⟨_,rfl⟩
  obtain⟨k,s,cs,A,c,hk,rfl,rfl,hsk,ho,hfl,hs,HM,HV⟩:=hrel;have HO:=hd0 ho;have hz:=HV.out.size;have hs3:s.length<=3:=by omega
  have HK:=hd0 hsk;clear ho hsk;by_cases hlt:k<x
  ·go_wp2_with fail
   refine(qX wa m fs lp G Ag cg HM.out HF.out h1 hG).mono ?_;rintro e w2 ⟨r,A2,c2,hr,hr1,rfl,hs2,hm2,hv2⟩;have sp:=Sp.next HM.out hv2;have hO2:=sp.own HO.out (by decide);have ae2:=sp.fl anN.ok (by decide) hfl.out;have wW:=gy HV.out hv2;have hz2:=wW.size;have hf2:Fl anN 1 w2 (TS [aY] w.heap.size w2) (cs++[.slice A2 r.length c2]) (s++[r]):=ae2.snoc ⟨A2,c2,rfl,hs2.ts anO.ok (fun t h=>h) hz⟩ rfl;have HF2:=hd0 hf2;have sD:=hd0 hm2;have xO:=hd0 wW;clear hs2 hm2 hv2 wW ae2 hf2 sp;go_wp2_with (at_builtin;refine iQ GX rfl (.tmp 17) (.tmp 20) rfl w2 w2.heap.size rfl w.heap.size s.length c A cs #[.slice A2 r.length c2] rfl rfl rfl hO2 (by simp[Value.oneCell']) (by omega) hz2 ?_;intro A5 c5 w5 h5 g5 l5;have FM:=hd0 h5;have Be:=hd0 g5;clear h5 g5 l5)
   have sp5:=Sp.push hO2 (show m<=w.heap.size by omega) Be.out;have Rj:=hd0 (sp5.mk sD.out (by decide));have HV5:=hd0 (kE xO.out hO2 (ag _) Be.out);have HF5:=hd0 (sp5.fl anN.ok (by decide) HF2.out);have QE:Hid (w5.ownsRow w.heap.size tRow 1 (.slice A5 (s++[r]).length c5) (s++[r]).length (cs++[.slice A2 r.length c2])):=hd0 (by simpa using FM.out);clear sp5;have HS5:Hid (∀q∈s++[r],aoG G q):=hd0 (fun q hq=>by
    rw[aqp,aql] at hq;rcases hq with hq|rfl
    ·exact hs.out q hq
    exact hr)
   go_roundw
   case rel=>exact⟨k+1,s++[r],cs++[.slice A2 r.length c2],A5,c5,by omega,by simp,by simp,by simp[HK.out],QE.out,HF5,HS5,Rj,HV5⟩
   case measure=>simp[intOf];omega
  go_wp2_with fail
  go_ret
  exact⟨s,A,c,⟨hs.out,by have:=HK.out;omega⟩,rfl,dJ HO.out (hfl.out.mono anN.ok (TS.mono (by simp) (ag _))) (by simp) (ag _) (by omega),HM.out,HV.out⟩
attribute [-go_sem] Builtin.append_
theorem qU {w:World}{base:Nat}{e t:TypeId}{s:Nat}{v:Value}{n:Nat}{xs:List Value}(h:w.ownsRow base e s v n xs){g:Nat}{cs:Array Value}(hb:Bk w g t cs)(hne:t≠e)(i:Nat)(u:Value):(w.setCell ⟨g,i,none⟩ u).ownsRow base e s v n xs:=h.kept (dF w ⟨g,i,none⟩ u) (bZ h hb hne)
theorem Ig (w:World)(Bd p gm cm:Nat)(gl:Gl)(s:PS)(rv:Rows)(K:Nat)(A:Option Addr)(n c:Nat)(ws:List P3)(t:B)(l:List B)(hP:PSt w Bd p gm cm gl s rv K)(hL:aok w A n ws)(hT:ah ws=t::l)(hK:K<=10000000000)(hc:n<=c):
  Calls Tryz.prog 90 #[.pointer (some ⟨p,0,none⟩),.slice A n c] w (anQ w Bd p gm cm gl (K+n) (lG s l)):=by
 have hn:n=l.length+1:=by rw[<-hL.length];exact dG hT
 have hB:=hP.size;have hnn:=hL.few;cases l with
 |nil=>
  have HR:Hid (lG s []= .error 22):=rfl;simp only[ln] at hn;subst hn;clear hP hL hT hc;go_enter Tryz.func90,Tryz.ntmps90
  go_wp2;go_ret
  exact anQ.bad HR.out (aqk _ _)
 |cons t1 r=>
  obtain⟨A',hsub,hrd,hlen⟩:=hL.sub hc 2 2 rfl (by simp at hn;omega);obtain⟨b,o,rfl,hb,q1,hz1⟩:=hL.word (k:=1) (t:=t1) (by rw[hT];rfl) (d:=3) rfl;have HP:=hd0 hP;have hpb:p<w.heap.size:=hP.par.lt;obtain⟨A0,c0,hv⟩:=hP.slice (i:=3) (by decide);have kp:w.cell? ⟨p,4,none⟩=some (rv 3).v:=hP.par.cell 4;rw[hv] at kp;have hfew:=hP.few 3 (by decide);have qL:=hd0 (fun w rb er h=>yU w rb p er t1 h);have hrest:ah (ws.drop 2)=r:=by rw[BL,hT];rfl
  have hns:=hd0 (fun w1 rb (hr:Rdr w1 rb p (bI 0 t1)) (hb:Below w.heap.size w w1)=>vM w1 rb p (bI 0 t1) A' (n - 2) (c - 2) (ws.drop 2) hr (hrd.below hb) hlen (by omega));rw[hrest] at hns;have HR:Hid (lG s (t1::r)=fin (fB (bI 0 t1) r) {s with f:= {s.f with features:=s.f.features++[⟨t1,r.map aI⟩]}}):=rfl;have hfl:=hd0 (fun(w:World) S=>BV w S (r.map aI) (EZ r));have hlm:Hid (n - 2=(r.map aI).length):=by show _=_;simp at hn ⊢;omega
  have hn2:2<=n:=by simp at hn;omega
  have en:((n:Int)<2)=False:=by simp;omega
  clear hP hL hT hrd hlen hn hz1 hrest;go_enter Tryz.func90,Tryz.ntmps90
  go_wp2_with fail
  refine(gu w p).mono ?_;rintro e w1 ⟨rfl,hr1,hb1⟩;obtain⟨hc1,hf1⟩:=af hb1;have QF:w1.cell? ⟨b,o+3+2,none⟩=some (.string ⟨t1.toArray⟩):=(hc1 _ _ hb).trans q1;have hl1:=hr1.lt;have hs1:=hb1.size;have hbl:b<w1.heap.size:=by omega
  have hbc:b≠w1.heap.size:=by omega
  have hpc:p≠w1.heap.size:=by omega
  have kW:=hd0 (hr1.alloc (.cells #[.string ⟨#[]⟩,.slice none 0 0] 97));have Hb1:=hd0 (hb1.alloc hs1 (.cells #[.string ⟨#[]⟩,.slice none 0 0] 97));have oO:Hid (Bk (w1.alloc (.cells #[.string ⟨#[]⟩,.slice none 0 0] 97)) w1.heap.size 97 #[.string ⟨#[]⟩,.slice none 0 0]):=Bk.new _ _ _;clear hr1 hb1 hc1 hf1;go_wp2_with fail
  refine(qL.out _ _ _ (by exact kW.out)).mono ?_;rintro e w2 ⟨rfl,hr2,hg2⟩;have hb2:=bz Hb1.out hg2 (ag _);have hk2:Bk w2 w1.heap.size 97 #[.string ⟨#[]⟩,.slice none 0 0]:=Bk.kept2 hg2 oO.out (by omega);have BM:w2.cell? ⟨w1.heap.size,0,none⟩=some (.string ⟨#[]⟩):=hk2.cell 0;have y2:=hk2.frozen 0;have hs2:=hk2.lt;have lT:Hid (Rdr (w2.setCell ⟨w1.heap.size,0,none⟩ (.string ⟨t1.toArray⟩)) w.heap.size p (bI 0 t1)):=Bk.far hr2 (by simp;omega) _;have Hb2:=hd0 (hb2.setCell (p:=⟨w1.heap.size,0,none⟩) (by simp;omega) (.string ⟨t1.toArray⟩));have fC:Hid (Bk (w2.setCell ⟨w1.heap.size,0,none⟩ (.string ⟨t1.toArray⟩)) w1.heap.size 97 #[.string ⟨t1.toArray⟩,.slice none 0 0]):=hk2.set 0 _;clear hr2 hg2 hb2 hk2;go_wp2_with fail
  refine(hns.out _ _ (by exact lT.out) (by exact Hb2.out)).mono ?_;rintro e w3 ⟨v,rfl,A4,c4,rfl,iZ,hr4,hg4⟩;have hb3:=bz Hb2.out hg4 (ag _);have hk3:Bk w3 w1.heap.size 97 #[.string ⟨t1.toArray⟩,.slice none 0 0]:=Bk.kept2 hg4 fC.out (by omega);have EX:w3.cell? ⟨w1.heap.size,1,none⟩=some (.slice none 0 0):=hk3.cell 1;have y3:=hk3.frozen 1;obtain⟨W1,hW1⟩:∃W1,w3.setCell ⟨w1.heap.size,1,none⟩ (.slice A4 (n - 2) c4)=W1:=⟨_,rfl⟩
  have lY:Rdr W1 w.heap.size p (fB (bI 0 t1) r):=hW1 ▸ Bk.far hr4 (by simp;omega) _;have Hb3:Below w.heap.size w W1:=hW1 ▸ (hb3.setCell (p:=⟨w1.heap.size,1,none⟩) (by simp;omega) (.slice A4 (n - 2) c4));have jI:Bk W1 w1.heap.size 97 #[.string ⟨t1.toArray⟩,.slice A4 (n - 2) c4]:=hW1 ▸ hk3.set 1 _;have Zp:=qU iZ hk3 (by decide) 1 (.slice A4 (n - 2) c4);rw[hW1] at Zp;have aO:=HP.out.below Hb3;have xX:W1.cell? ⟨p,4,none⟩=some (.slice A0 (rv 3).n c0):=((af Hb3).1 _ _ hpb).trans kp;have vC:W1.cell? ⟨w1.heap.size,0,none⟩=some (.string ⟨t1.toArray⟩):=jI.cell 0;have xE:W1.cell? ⟨w1.heap.size,1,none⟩=some (.slice A4 (n - 2) c4):=jI.cell 1;have zp:p<W1.heap.size:=aO.par.lt;have zc:w1.heap.size<W1.heap.size:=jI.lt;have hown:=aO.live.own 3 (by decide);rw[hv] at hown;obtain⟨A5,c5,w9,hrun,aZ,aB,bD⟩:=iw XA 27 W1 Bd _ c0 A0 _ #[.string ⟨t1.toArray⟩,.slice A4 (n - 2) c4] rfl hown (by simp[Value.oneCell']) (by omega) aO.size;rw[<-hv] at aB bD;have bT:Bk w9 p jq (dW s rv gm cm):=(aO.row (i:=3) (by decide) (r:=⟨.slice A5 ((rv 3).n+1) c5,_,_⟩) aB aZ bD).1;have jB:=Bk.grown lY aB (aO.live.own 3 (by decide)) (by decide);have x9:w9.cell? ⟨p,4,none⟩=some (rv 3).v:=bT.cell 4;have y9:=bT.frozen 4;have z9:w9.cell? ⟨w.heap.size,1,none⟩=some (.int .i64 (fB (bI 0 t1) r)):=jB.cell 1;have hel:anU W1 (Fz W1 rv) [.string ⟨t1.toArray⟩,.slice A4 (n - 2) c4] ⟨t1,r.map aI⟩:=by rw[hlm.out] at Zp ⊢;refine⟨A4,c4,rfl,Sl.aow Zp (hfl.out _ _) (HP.out.fresh Zp ?_ (by decide)) (by decide)⟩;simp;omega
  have bP:=hd0 (PSt.apF (m:=1) (K':=K+n) aO aB aZ bD (ys:=[⟨t1,r.map aI⟩]) rfl (Fl.one (R:=anU) hel rfl) (by omega));have ik:=hd0 ((Hb3.mono hB).trans (aO.aoB (i:=3) (by decide) aB 4 (.slice A5 ((rv 3).n+1) c5) aO.size));have HQ:=hd0 (KQ.below (cm:=cm) Hb3);clear hown aZ aB bD bT jB aO hel Zp Hb3 lY jI iZ hr4 hg4 hb3 hk3 lT Hb2 fC kW Hb1 oO;go_wp2_with fail
  try rw[hW1]
  go_region
  all_goals
   go_wp2;go_ret
   exact anQ.fin HR.out ik.out (HQ.out.trans bP.out.2) bP.out.1
end
section
attribute [-go_sem] Builtin.append_
theorem ZG (s:PS)(l:List B)(h:l.length≠4):lL s l= .error 22:=by
 unfold lL;split
 ·rfl
 split
 ·simp at h
 rfl
theorem Q5 (w:World)(Bd p gm cm:Nat)(gl:Gl)(s:PS)(rv:Rows)(K:Nat)(A:Option Addr)(n c:Nat)(ws:List P3)(t:B)(l:List B)(hP:PSt w Bd p gm cm gl s rv K)(hL:aok w A n ws)(hT:ah ws=t::l)(hK:K<=10000000000)(hc:n<=c){init:List anP}{g:anP}(hs:s.f.anL=init++[g]){G n0 c9 q:Nat}(h0:(rv 0).v= .slice (some ⟨G,0,none⟩) n0 c9)(hq:q=init.length*9):
  Calls Tryz.prog 84 #[.pointer (some ⟨p,0,none⟩),.slice A n c,.pointer (some ⟨G,q,none⟩)] w (anQ w Bd p gm cm gl (K+n) (lL s l)):=by
 have hn:n=l.length+1:=by rw[<-hL.length];exact dG hT
 have hB:=hP.size;by_cases h1:l.length=4
 ·obtain⟨t1,t2,t3,t4,rfl⟩:∃t1 t2 t3 t4,l=[t1,t2,t3,t4]:=by
   match l,h1 with
   |[a,b,c,d],_=>exact⟨a,b,c,d,rfl⟩
  obtain⟨A',hsub,hrd,hlen⟩:=hL.sub hc 1 1 rfl (by omega);simp only[ay,ln] at hn;subst hn;have HP:=hd0 hP;obtain⟨G',c9',ci,gv,-,-,hGb,jS,Bc,uM⟩:=hP.aoz hs;obtain⟨rfl,hn0,rfl⟩:G'=G/\init.length+1=n0/\c9'=c9:=by rw[gv] at h0;simpa using h0
  have hpb:G'<w.heap.size:=hGb;obtain⟨A0,c0,hv⟩:=hP.slice (i:=12) (by decide);have kp:w.cell? ⟨G',q+7,none⟩=some (rv 12).v:=by rw[hq];exact jS 7 (by decide)
  rw[hv] at kp;have hfew:=hP.few 12 (by decide);have HR:Hid (lL s [t1,t2,t3,t4]=fin (fB 0 [t1,t2,t3,t4]) {s with f:= {s.f with anL:=init++[{g with deltas:=g.deltas++[⟨aI t1,aI t2,aI t3,aI t4⟩]}]}}):=by show _=_;unfold lL;rw[if_neg (xI hs)];simp only;rw[uw s _ hs]
  have Hs:=hd0 hs;have Hq:=hd0 hq;have H0:=hd0 h0;have uQ:=hd0 uM;have HI1:=hd0 (dI t1);have HI2:=hd0 (dI t2);have HI3:=hd0 (dI t3);have HI4:=hd0 (dI t4);have hns:=hd0 (fun w1 rb (hr:Rdr w1 rb p 0) (hb:Below w.heap.size w w1)=>vM w1 rb p 0 A' (0+1+1+1+1+1 - 1) (c - 1) (ws.drop 1) hr (hrd.below hb) hlen (by omega));rw[jF hT] at hns;have hcI:Hid (aP (List.map aI [t1,t2,t3,t4])=[.int .i64 (aI t1),.int .i64 (aI t2),.int .i64 (aI t3),.int .i64 (aI t4)]):=rfl;rw[hcI.out] at hns;generalize fB 0 [t1,t2,t3,t4]=er at*
  generalize aI t1=v1 at*
  generalize aI t2=v2 at*
  generalize aI t3=v3 at*
  generalize aI t4=v4 at*
  clear hP hL hT hrd hlen hs hq h0 gv jS Bc uM hn0 hcI h1;simp only[aq2,Nat.reduceAdd,Nat.reduceSub] at hsub hns hK ⊢;go_enter Tryz.func84,Tryz.ntmps84
  go_wp2_with fail
  refine(gu w p).mono ?_;rintro e w1 ⟨rfl,hr1,hb1⟩;have hz1:=hb1.size;go_wp2_with fail
  refine(hns.out _ _ hr1 hb1).mono ?_;rintro e w2 ⟨v,rfl,A4,c4,rfl,iZ,hr4,hg4⟩;have hb2:=bz hb1 hg4 (ag _);obtain⟨b4,aaL,rfl,hk4,hx4⟩:∃b4 aaL,A4=some ⟨b4,0,none⟩/\Bk w2 b4 3 aaL/\∀j u,[Value.int .i64 v1,.int .i64 v2,.int .i64 v3,.int .i64 v4][j]? =some u->aaL[j]? =some u:=by
   rcases iZ.2 with⟨_,h⟩|⟨g,cap,cur,e,_,hh,_,_,_,htk⟩
   ·omega
   simp only[arf,true_and] at e;obtain⟨rfl,-⟩:=e;refine⟨g,cur,rfl,hh,fun j u hu=> ?_⟩;rw[<-htk,aqP] at hu;split at hu
   ·simpa using hu
   cases hu
  have m0:w2.cell? ⟨b4,0,none⟩=some (.int .i64 v1):=(hk4.cell 0).trans (hx4 0 _ rfl);have m1:w2.cell? ⟨b4,1,none⟩=some (.int .i64 v2):=(hk4.cell 1).trans (hx4 1 _ rfl);have m2:w2.cell? ⟨b4,2,none⟩=some (.int .i64 v3):=(hk4.cell 2).trans (hx4 2 _ rfl);have m3:w2.cell? ⟨b4,3,none⟩=some (.int .i64 v4):=(hk4.cell 3).trans (hx4 3 _ rfl);have hb4:b4<w2.heap.size:=hk4.lt;have k2:w2.cell? ⟨G',q+7,none⟩=some (.slice A0 (rv 12).n c0):=((af hb2).1 _ _ hpb).trans kp;have hG2:G'<w2.heap.size:=aqu hpb hb2.size;have aO:=HP.out.below hb2;have hown:=aO.live.own 12 (by decide);rw[hv] at hown;obtain⟨A5,c5,w9,hrun,aZ,aB,bD⟩:=iw Uj 56 w2 Bd _ c0 A0 _ #[.int .i64 v1,.int .i64 v2,.int .i64 v3,.int .i64 v4] rfl hown (by simp[Value.oneCell']) (by omega) aO.size;rw[<-hv] at aB bD;obtain⟨J8,bT,sU⟩:∃cur,Bk w9 G' 59 cur/\cur[q+7]? =some (rv 12).v:=by obtain⟨cur,di⟩:=uQ.out;exact⟨cur,Bk.grown (di.keep (hb2.block G' hpb)) aB (aO.live.own 12 (by decide)) (by decide),by rw[<-di.cell,kp,hv]⟩
  have jB:=Bk.grown hr4 aB (aO.live.own 12 (by decide)) (by decide);have x9:w9.cell? ⟨G',q+7,none⟩=some (rv 12).v:=(bT.cell _).trans sU;have y9:=bT.frozen (q+7);have z9:w9.cell? ⟨w.heap.size,1,none⟩=some (.int .i64 er):=jB.cell 1;have bP:=hd0 (PSt.apD (m:=1) (K':=K+5) aO Hs.out H0.out aB aZ bD (ys:=[⟨v1,v2,v3,v4⟩]) rfl (Fl.one (R:=an6) (⟨rfl,HI1.out,HI2.out,HI3.out,HI4.out⟩) rfl) (by omega));rw[<-Hq.out] at bP;have ik:=hd0 (hb2.mono hB);have HQ:=hd0 (KQ.below (cm:=cm) hb2);clear hown aZ aB bD bT jB aO hb2 iZ hr4 hg4 hb1 hr1 hk4 hx4 sU;go_wp2_with fail
  go_region
  all_goals
   go_wp2;go_ret
   obtain⟨rv',g1,g2,g3,-⟩:=bP.out;exact anQ.fin HR.out (ik.out.trans g3) (HQ.out.trans g2) g1
 have HR:=hd0 (ZG s l h1);have e1:((n:Int)==5)=false:=by simp;omega
 have e2:((n:Int) !=5)=true:=by simp;omega
 clear hP hL hT h1 hn hs h0 hq;go_enter Tryz.func84,Tryz.ntmps84
 go_wp2;go_ret
 exact anQ.bad HR.out (aqk _ _)
end
section
attribute [-go_sem] Builtin.append_
def zy (l:List aot):List Value:=l.flatMap fun t=>[.int .i64 t.start,.int .i64 t.peak,.int .i64 t.stop]
theorem YB (a b:List aot):zy (a++b)=zy a++zy b:=by simp[zy]
theorem Du:∀(a b:List Int),a.length % 3=0->cu (a++b)=cu a++cu b
 |[],b,_=>rfl
 |[x],b,h=>by simp at h
 |[x,y],b,h=>by simp at h
 |x::y::z::r,b,h=>by
  have h2:r.length % 3=0:=by simp only[ay] at h;omega
  show⟨x,y,z⟩::cu (r++b)=⟨x,y,z⟩::(cu r++cu b)
  rw[Du r b h2]
theorem Mc:∀(a:List Int),(∀x∈a,I64 x)->∀t∈cu a,I64 t.start/\I64 t.peak/\I64 t.stop
 |[],_,t,ht=>by simp[cu] at ht
 |[x],_,t,ht=>by simp[cu] at ht
 |[x,y],_,t,ht=>by simp[cu] at ht
 |x::y::z::r,h,t,ht=>by
  have ht:t∈⟨x,y,z⟩::cu r:=ht;rcases aqx.1 ht with rfl|ht
  ·exact⟨h x (by simp),h y (by simp),h z (by simp)⟩
  exact Mc r (fun u hu=>h u (by simp[hu])) t ht
theorem KU:∀(a:List Int),(cu a).length<=a.length
 |[]=>ag _
 |[x]=>by simp[cu]
 |[x,y]=>by simp[cu]
 |x::y::z::r=>by
  show(⟨x,y,z⟩::cu r:List aot).length<=_;have:=KU r;simp only[ay];omega
theorem ael (w:World)(S:Bs)(l:List aot)(h:∀t∈l,I64 t.start/\I64 t.peak/\I64 t.stop):Fl aoL 3 w S (zy l) l:=by
 induction l with
 |nil=>exact Fl.nil
 |cons x r ih=>obtain⟨h1,h2,h3⟩:=h x (by simp);exact(Fl.one (R:=aoL) (cs:=[.int .i64 x.start,.int .i64 x.peak,.int .i64 x.stop]) ⟨rfl,h1,h2,h3⟩ rfl).append (ih (fun y hy=>h y (by simp[hy])))
theorem three {l:List Int}(h:l.length % 3=0)(h0:l≠[]):∃x y z r,l=x::y::z::r:=by
 match l,h,h0 with
 |[],_,h0=>exact absurd rfl h0
 |[x],h,_=>simp at h
 |[x,y],h,_=>simp at h
 |x::y::z::r,_,_=>exact⟨x,y,z,r,rfl⟩
theorem RdT.apart {w w2:World}{t e:TypeId}{A:Option Addr}{n size base s2 n2 c2:Nat}{A2:Option Addr}{cs xs:List Value}(h:RdT w t A n size cs)(ho:w.ownsRow base e s2 (.slice A2 n2 c2) n2 xs)(hg:w.grownBy w2 (Value.slice A2 n2 c2).ownBlock)(hne:t≠e):RdT w2 t A n size cs:=
 ⟨h.1,fun h0=>by
  obtain⟨b,o,cur,e1,hb,hr⟩:=h.2 h0;exact⟨b,o,cur,e1,Bk.grown hb hg ho hne,hr⟩⟩
theorem RdT.ape {w:World}{t e:TypeId}{A:Option Addr}{n size g:Nat}{cs:List Value}{Fh:Array Value}(h:RdT w t A n size cs)(hb:Bk w g e Fh)(hne:t≠e)(i:Nat)(u:Value):RdT (w.setCell ⟨g,i,none⟩ u) t A n size cs:=
 ⟨h.1,fun h0=>by
  obtain⟨b,o,cur,e1,hb1,hr⟩:=h.2 h0;refine⟨b,o,cur,e1,Bk.far hb1 (fun e'=> ?_) u,hr⟩;subst e';exact hne (bY hb1 hb).1⟩
abbrev BC:TypeId:=104
def ao5 (w:World)(rb p D:Nat)(er:Int)(nums:List Int)(v:Value)(wr:World):Prop:=
 ∃(dn rs:List Int) (A:Option Addr) (m c:Nat) (At:Option Addr) (kt ct:Nat),v= .slice A m c/\nums=dn++rs/\dn.length % 3=0/\rs.length % 3=0/\m=rs.length/\m<=c/\RdT wr 3 A m 1 (aP rs)/\
  wr.ownsRow w.heap.size 101 3 (.slice At kt ct) kt (zy (cu dn))/\kt=(cu dn).length/\Bk wr D BC #[.slice At kt ct]/\Rdr wr rb p er/\Below w.heap.size w wr
theorem abw (x:Int)(l:List Int):aP (x::l)= .int .i64 x::aP l:=rfl
theorem ao5.open {w wr:World}{rb p D:Nat}{er:Int}{nums:List Int}{v:Value}(h:ao5 w rb p D er nums v wr)(hD:w.heap.size<=D):∃A m c,v= .slice A m c/\((m=0/\∃At kt ct,wr.ownsRow w.heap.size 101 3 (.slice At kt ct) kt (zy (cu nums))/\kt=(cu nums).length/\Bk wr D BC #[.slice At kt ct]/\Rdr wr rb p er/\Below w.heap.size w wr)\/
  ∃b o x y z At kt ct xs,A=some ⟨b,o,none⟩/\b<wr.heap.size/\wr.cell? ⟨b,o,none⟩=some (.int .i64 x)/\wr.cell? ⟨b,o+1,none⟩=some (.int .i64 y)/\wr.cell? ⟨b,o+2,none⟩=some (.int .i64 z)/\3<=m/\wr.ownsRow w.heap.size 101 3 (.slice At kt ct) kt xs/\kt<=nums.length/\Bk wr D BC #[.slice At kt ct]/\Below w.heap.size w wr/\
   ∀A5 c5 w9,w9.ownsRow w.heap.size 101 3 (.slice A5 (kt+1) c5) (kt+1) (xs++[.int .i64 x,.int .i64 y,.int .i64 z])->wr.grownBy w9 (Value.slice At kt ct).ownBlock->ao5 w rb p D er nums (.slice (if c=3 then A else A.map (·.add (3*1))) (m - 3) (c - 3)) (w9.setCell ⟨D,0,none⟩ (.slice A5 (kt+1) c5))):=by
 obtain⟨dn,rs,A,m,c,At,kt,ct,rfl,h1,h2,h3,h4,h5,h6,h7,h8,h9,h10,h11⟩:=h;refine⟨A,m,c,rfl,?_⟩;by_cases hr:rs=[]
 ·subst hr;rw[aqR] at h1;subst h1;exact .inl ⟨h4,At,kt,ct,h7,h8,h9,h10,h11⟩
 obtain⟨x,y,z,r,rfl⟩:=three h3 hr;simp only[ay] at h4 h3;obtain⟨b,o,cur,e1,hb,hc⟩:=h6.2 (by omega);refine .inr ⟨b,o,x,y,z,At,kt,ct,_,e1,hb.lt,(hb.cell o).trans (hc 0 _ rfl),(hb.cell _).trans (hc 1 _ rfl),(hb.cell _).trans (hc 2 _ rfl),by omega,h7,?_,h9,h11,?_⟩
 ·rw[h8,h1,az];have:=KU dn;omega
 intro A5 c5 w9 ho hg;have di:=Bk.grown h9 hg h7 (by decide);refine⟨dn++[x,y,z],r,_,_,_,A5,kt+1,c5,rfl,by rw[h1];simp,by simp only[az,ay,ln];omega,by omega,by omega,by omega,?_,?_,?_,di.set 0 _,?_,?_⟩
 ·exact((h6.apart h7 hg (by decide)).ape di (by decide) 0 _).sub (by omega) h5
 ·rw[Du dn _ h2,YB];exact qU ho di (by decide) 0 _
 ·rw[Du dn _ h2,az,h8];rfl
 ·have:=Bk.grown h10 hg h7 (by decide);refine Bk.far this (fun e=> ?_) _;subst e;have:=(bY this di).1
  revert this
  decide
 exact(h11.grown hg h11.size (fun g e=>(h7.lt g e).1)).setCell hD _
theorem Nk (w:World)(Bd p gm cm:Nat)(gl:Gl)(s:PS)(rv:Rows)(K:Nat)(A:Option Addr)(n c:Nat)(ws:List P3)(t:B)(l:List B)(hP:PSt w Bd p gm cm gl s rv K)(hL:aok w A n ws)(hT:ah ws=t::l)(hK:K<=10000000000)(hc:n<=c):
  Calls Tryz.prog 75 #[.pointer (some ⟨p,0,none⟩),.slice A n c] w (anQ w Bd p gm cm gl (K+n) (lX s l)):=by
 have hn:n=l.length+1:=by rw[<-hL.length];exact dG hT
 have hB:=hP.size;have hnn:=hL.few;by_cases h3:l.length % 3=0
 ·obtain⟨A',hsub,hrd,hlen⟩:=hL.sub hc 1 1 rfl (by omega);have HP:=hd0 hP;have hpb:p<w.heap.size:=hP.par.lt;obtain⟨A0,c0,hv⟩:=hP.slice (i:=5) (by decide);have kp:w.cell? ⟨p,6,none⟩=some (rv 5).v:=hP.par.cell 6;rw[hv] at kp;have hfew:=hP.few 5 (by decide);have hns:=hd0 (fun w1 rb (hr:Rdr w1 rb p 0) (hb:Below w.heap.size w w1)=>vM w1 rb p 0 A' (n - 1) (c - 1) (ws.drop 1) hr (hrd.below hb) hlen (by omega));rw[jF hT] at hns;have HR:Hid (lX s l=fin (fB 0 l) {s with f:= {s.f with regions:=s.f.regions++[⟨cu (l.map aI)⟩]}}):=by show _=_;unfold lX;rw[if_neg (by omega)]
  have hI:=hd0 (Mc _ (EZ l));have hnl:Hid ((l.map aI).length=n - 1):=by show _=_;simp;omega
  have akg:Hid ((l.map aI).length % 3=0):=by show _=_;simp;omega
  have er:(((n:Int) - 1).tmod 3 !=0)=false:=by rw[show(n:Int) - 1=(l.length:Nat) by omega];rw[Int.tmod_eq_emod_of_nonneg (by omega)];simp;omega
  have Bg:(((n:Int) - 1) % 3 !=0)=false:=by rw[show(n:Int) - 1=(l.length:Nat) by omega];simp;omega
  have hn1:1<=n:=by omega
  generalize fB 0 l=er0 at*
  generalize l.map aI=nums at*
  clear hP hL hT hrd hlen hn h3;go_enter Tryz.func75,Tryz.ntmps75
  go_wp2_with fail
  refine(gu w p).mono ?_;rintro e w1 ⟨rfl,hr1,hb1⟩;have hl1:=hr1.lt;have hs1:=hb1.size;have kW:=hd0 (hr1.alloc (.cells #[.slice none 0 0] BC));have Hb1:=hd0 (hb1.alloc hs1 (.cells #[.slice none 0 0] BC));have oO:Hid (Bk (w1.alloc (.cells #[.slice none 0 0] BC)) w1.heap.size BC #[.slice none 0 0]):=Bk.new _ _ _;clear hr1 hb1;go_wp2_with fail
  refine(hns.out _ _ (by exact kW.out) (by exact Hb1.out)).mono ?_;rintro e w2 ⟨v,rfl,A4,c4,rfl,iZ,hr4,hg4⟩;have hk2:Bk w2 w1.heap.size BC #[.slice none 0 0]:=Bk.kept2 hg4 oO.out (by omega);have HS:Hid (ao5 w w.heap.size p w1.heap.size er0 nums (.slice A4 (n - 1) c4) w2):=⟨[],nums,A4,n - 1,c4,none,0,0,rfl,rfl,rfl,akg.out,hnl.out.symm,vZ iZ,kH iZ,World.ownsRow_nil _ _ _ _,rfl,hk2,hr4,bz Hb1.out hg4 (ag _)⟩
  clear iZ hr4 hg4 hk2 kW Hb1 oO hsub hns;go_wp2_with fail
  go_loopw [7] (fun v wr=>ao5 w w.heap.size p w1.heap.size er0 nums v wr) (fun v _=>match v with| .slice _ k _=>k|_=>0)
  case atStart=>exact HS.out
  case round=>
   obtain⟨A5,m,c5,rfl,⟨rfl,At,kt,ct,h7,h8,h9,h10,h11⟩|⟨b5,o5,x,y,z,At,kt,ct,xs,rfl,hb5,z0,z1,z2,hm,h7,h8,h9,h11,hnx⟩⟩:=ao5.open hrel hs1
   ·have aO:=HP.out.below h11;have xX:wr.cell? ⟨p,6,none⟩=some (.slice A0 (rv 5).n c0):=((af h11).1 _ _ hpb).trans kp;have vC:wr.cell? ⟨w1.heap.size,0,none⟩=some (.slice At kt ct):=h9.cell 0;have zp:p<wr.heap.size:=aO.par.lt;have zc:w1.heap.size<wr.heap.size:=h9.lt;have hown:=aO.live.own 5 (by decide);rw[hv] at hown;obtain⟨A6,c6,w9,hrun,aZ,aB,bD⟩:=iw Qy 29 wr Bd _ c0 A0 _ #[.slice At kt ct] rfl hown (by simp[Value.oneCell']) (by omega) aO.size;rw[<-hv] at aB bD;have bT:Bk w9 p jq (dW s rv gm cm):=(aO.row (i:=5) (by decide) (r:=⟨.slice A6 ((rv 5).n+1) c6,_,_⟩) aB aZ bD).1;have jB:=Bk.grown h10 aB (aO.live.own 5 (by decide)) (by decide);have x9:w9.cell? ⟨p,6,none⟩=some (rv 5).v:=bT.cell 6;have y9:=bT.frozen 6;have z9:w9.cell? ⟨w.heap.size,1,none⟩=some (.int .i64 er0):=jB.cell 1;have hel:anY wr (Fz wr rv) [.slice At kt ct] ⟨cu nums⟩:=by rw[h8] at h7 ⊢;exact⟨At,ct,rfl,Sl.aow h7 (ael _ _ _ hI.out) (HP.out.fresh h7 (ag _) (by decide)) (by decide)⟩
    have bP:=hd0 (PSt.apo (m:=1) (K':=K+n) aO aB aZ bD (ys:=[⟨cu nums⟩]) rfl (Fl.one (R:=anY) hel rfl) (by omega));have ik:=hd0 ((h11.mono hB).trans (aO.aoB (i:=5) (by decide) aB 6 (.slice A6 ((rv 5).n+1) c6) aO.size));have HQ:=hd0 (KQ.below (cm:=cm) h11);clear hown aZ aB bD bT jB aO hel h7 h9 h10 h11 HS hrel h8;go_wp2_with fail
    go_region
    all_goals
     go_wp2;go_ret
     exact anQ.fin HR.out ik.out (HQ.out.trans bP.out.2) bP.out.1
   have vC:wr.cell? ⟨w1.heap.size,0,none⟩=some (.slice At kt ct):=h9.cell 0;have zc:w1.heap.size<wr.heap.size:=h9.lt;have hkt:=hnl.out;obtain⟨A6,c6,w9,hrun,aZ,aB,bD⟩:=iw ZR 102 wr w.heap.size _ ct At _ #[.int .i64 x,.int .i64 y,.int .i64 z] rfl h7 (by simp[Value.oneCell']) (by omega) (by omega);have di:=Bk.grown h9 aB h7 (by decide);have x9:w9.cell? ⟨w1.heap.size,0,none⟩=some (.slice At kt ct):=di.cell 0;have y9:=di.frozen 0;have Hnx:=hd0 (hnx _ _ _ aZ aB);have hsl:=UI Tryz.underlying22 adX (some ⟨b5,o5,none⟩) m c5 3 3 rfl hm;clear aZ aB bD h7 h9 h11 HS hrel h8 hnx di hkt;go_wp2_with fail
   go_region
   all_goals
    go_wp2;go_roundw
    case rel=>exact Hnx.out
    case measure=>simp;omega
 have HR:Hid (lX s l= .error 22):=by show _=_;unfold lX;rw[if_pos h3]
 have er:(((n:Int) - 1).tmod 3 !=0)=true:=by rw[show(n:Int) - 1=(l.length:Nat) by omega];rw[Int.tmod_eq_emod_of_nonneg (by omega)];simp;omega
 have Bg:(((n:Int) - 1) % 3 !=0)=true:=by rw[show(n:Int) - 1=(l.length:Nat) by omega];simp;omega
 clear hP hL hT hc h3 hn;go_enter Tryz.func75,Tryz.ntmps75
 go_wp2;go_ret
 exact anQ.bad HR.out (aqk _ _)
end
section
attribute [-go_sem] Builtin.append_
theorem Ik (w:World)(Bd p gm cm:Nat)(gl:Gl)(s:PS)(rv:Rows)(K:Nat)(A:Option Addr)(n c:Nat)(ws:List P3)(t:B)(l:List B)(hP:PSt w Bd p gm cm gl s rv K)(hL:aok w A n ws)(hT:ah ws=t::l)(hK:K<=1000000000)(hc:n<=c){init:List anP}{g:anP}(hs:s.f.anL=init++[g]){G n0 c9 q:Nat}(h0:(rv 0).v= .slice (some ⟨G,0,none⟩) n0 c9)(hq:q=init.length*9):
  Calls Tryz.prog 81 #[.pointer (some ⟨p,0,none⟩),.slice A n c,.pointer (some ⟨G,q,none⟩)] w (anQ w Bd p gm cm gl (K+n) (gK s l)):=by
 have hn:n=l.length+1:=by rw[<-hL.length];exact dG hT
 have hB:=hP.size;have hnn:=hL.few;by_cases hle:l=[]
 ·have HR:Hid (gK s l= .error 22):=by
   show _=_;unfold gK;rw[if_neg (xI hs),if_pos (.inl hle)]
  have hl0:l.length=0:=by rw[hle];rfl
  have e1:((n:Int)<2):=by omega
  clear hP hL hT hn hs h0 hq hle hl0;go_enter Tryz.func81,Tryz.ntmps81
  go_wp2;go_ret
  exact anQ.bad HR.out (aqk _ _)
 have hl1:1<=l.length:=by
  cases l with
  |nil=>exact absurd rfl hle
  |cons a b=>simp
 have hn2:2<=n:=by omega
 have e2n:¬((n:Int)<2):=by omega
 obtain⟨A',hsub,hrd,hlen⟩:=hL.sub hc 1 1 rfl (by omega);have nV:=hd0 (Rl w A' (n - 1) (c - 1) (ws.drop 1) hrd hlen (by omega));have hall:(ws.drop 1).all (fun x=>lV x.2.2)=l.all lV:=by rw[AB,jF hT]
 rw[hall] at nV;cases hok:l.all lV with
 |false=>
  rw[hok] at nV;have HR:Hid (gK s l= .error 22):=by show _=_;unfold gK;rw[if_neg (xI hs),if_pos (.inr hok)]
  clear hok hall hP hL hT hrd hlen hn hs h0 hq hle;go_enter Tryz.func81,Tryz.ntmps81
  go_wp2_with (go_at_call 130;refine nV.out.mono ?_;rintro e w1 ⟨rfl,hb1⟩)
  go_ret
  exact anQ.bad HR.out (hb1.mono hB)
 |true=>
  rw[hok] at nV;have HP:=hd0 hP;obtain⟨G',c9',ci,gv,-,-,hGb,jS,Bc,uM⟩:=hP.aoz hs;obtain⟨rfl,hn0,rfl⟩:G'=G/\init.length+1=n0/\c9'=c9:=by rw[gv] at h0;simpa using h0
  have hpb:G'<w.heap.size:=hGb;obtain⟨A0,c0,hv⟩:=hP.slice (i:=8) (by decide);have kp:w.cell? ⟨G',q+3,none⟩=some (rv 8).v:=by rw[hq];exact jS 3 (by decide)
  rw[hv] at kp;have hfew:=hP.few 8 (by decide);have HR:Hid (gK s l=fin (l.foldl xG 0) {s with f:= {s.f with anL:=init++[{g with points:=g.points++l.map qJ,ends:=g.ends++[((g.points.length+l.length:Nat):Int) - 1]}]}}):=by show _=_;unfold gK;rw[if_neg (xI hs),if_neg (by rw[hok];simp[hle]),uw s _ hs]
  have hpl:g.points.length+l.length<=K+n:=by
   have h5:(rv 8).n=g.points.length:=by
    rcases hP.fnt.gly.2 with⟨e,_⟩|⟨init',g',ci,e1,-,-,-,h5,-⟩
    ·rw[hs] at e;simp at e
    rw[hs] at e1;obtain⟨rfl,e1⟩:=List.append_inj' e1 rfl;obtain rfl:g=g':=by simpa using e1
    exact h5.1
   have:=hP.few 8 (by decide);omega
  have hpn:Hid ((g.points++l.map qJ).length=g.points.length+l.length):=by show _=_;simp
  have Hs:=hd0 hs;have Hq:=hd0 hq;have H0:=hd0 h0;have uQ:=hd0 uM;have hns:=hd0 (fun w1 rb (hr:Rdr w1 rb p 0) (hb:Below w.heap.size w w1) (di:w.heap.size<=rb)=>Zt w1 rb p 0 A' (n - 1) (c - 1) (ws.drop 1) hr (hrd.below hb) hlen (by omega));rw[jF hT] at hns;have hll:l.length=n - 1:=by omega
  have hfl:=hd0 (fun(w:World) S=>ahm w S (l.map qJ) (adm l));have hlm:Hid (n - 1=(l.map qJ).length):=by show _=_;simp[hll]
  have hone:=hd0 (adU (l.map qJ));have afB:n - 1<=n:=by omega
  have hn1:1<=n:=by omega
  clear hP hL hT hrd hlen hll hn hall hok hle hs h0 hq gv jS Bc uM hn0;go_enter Tryz.func81,Tryz.ntmps81
  go_wp2_with (go_at_call 130;refine nV.out.mono ?_;rintro e w0 ⟨rfl,hb0⟩)
  go_wp2_with fail
  refine(gu w0 p).mono ?_;rintro e w1 ⟨rfl,hr1,Dq⟩;have hb1:Below w.heap.size w w1:=hb0.trans (Dq.mono hb0.size);have k1:w1.cell? ⟨G',q+3,none⟩=some (.slice A0 (rv 8).n c0):=((af hb1).1 _ _ hpb).trans kp;have k1d:w1.drew.cell? ⟨G',q+3,none⟩=some (.slice A0 (rv 8).n c0):=k1;have hz0:=hb0.size;have hz1:=hb1.size;have hlr:=hr1.lt;have kW:=hd0 hr1;have Hb1:=hd0 hb1;clear hr1 hb1 hb0 Dq;go_wp2_with fail
  go_region_with (go_at_call 131;refine(hns.out _ _ (by exact kW.out) (by exact Hb1.out.drew) hz0).mono ?_;rintro e w2 ⟨v,rfl,A4,c4,rfl,iZ,hr4,hg4⟩;have hb2:=bz Hb1.out.drew hg4 hz0;have aO:=HP.out.below hb2;have hown:=aO.live.own 8 (by decide);rw[hv] at hown;have Dv:=(kH iZ).rd;obtain⟨A5,c5,w9,hrun,aZ,aB,bD⟩:=EY ZY 51 w2 Bd _ c0 A0 _ _ A4 (n - 1) c4 _ hown Dv hone.out (by omega) aO.size;have k2:w2.cell? ⟨G',q+3,none⟩=some (.slice A0 (rv 8).n c0):=((af hb2).1 _ _ hpb).trans kp;rw[<-hv] at aB bD;obtain⟨J8,bT,sU⟩:∃cur,Bk w9 G' 59 cur/\cur[q+3]? =some (rv 8).v:=(by obtain⟨cur,di⟩:=uQ.out;exact⟨cur,Bk.grown (di.keep (hb2.block G' hpb)) aB (aO.live.own 8 (by decide)) (by decide),by rw[<-di.cell,kp,hv]⟩);have jB:=Bk.grown hr4 aB (aO.live.own 8 (by decide)) (by decide);have x9:w9.cell? ⟨G',q+3,none⟩=some (rv 8).v:=(bT.cell _).trans sU;have y9:=bT.frozen (q+3);have z9:w9.cell? ⟨w0.heap.size,1,none⟩=some (.int .i64 (l.foldl xG 0)):=jB.cell 1;have Hr9:=hd0 jB;have bP:=hd0 (PSt.apH (m:=n - 1) (K':=K+(n - 1)) aO Hs.out H0.out aB aZ bD hlm.out (hfl.out _ _) (by omega));rw[<-Hq.out] at bP;have ik:=hd0 (hb2.mono hB);have HQ:=hd0 (KQ.below (cm:=cm) hb2);clear hown aZ aB bD bT jB aO hb2 iZ hr4 hg4 Dv)
  all_goals
   obtain⟨Dx,vG,HQ5,qK,hv5⟩:=bP.out;obtain⟨W5,lI⟩:∃W5,w9.setCell ⟨G',q+3,none⟩ (.slice A5 ((rv 8).n+(n - 1)) c5)=W5:=⟨_,rfl⟩
   rw[lI] at vG HQ5 qK ⊢;have pK:Rdr W5 w0.heap.size p (l.foldl xG 0):=by rw[<-lI];exact Bk.far Hr9.out (by simp;omega) _
   have VB:=hv5.trans H0.out;obtain⟨G2,c2,ci2,gv2,-,-,hG2,Ql,aiW,aeM⟩:=vG.aoz (init:=init) rfl;obtain⟨rfl,-,rfl⟩:G2=G'/\init.length+1=n0/\c2=c9':=by rw[gv2] at VB;simpa using VB
   obtain⟨A8,c8,hv8⟩:=vG.slice (i:=8) (by decide);obtain⟨A9,c90,LQ⟩:=vG.slice (i:=9) (by decide);have q8:W5.cell? ⟨G2,q+3,none⟩=some (Dx 8).v:=by rw[Hq.out];exact Ql 3 (by decide)
   have q9:W5.cell? ⟨G2,q+3+1,none⟩=some (Dx 9).v:=by rw[Hq.out];exact Ql 4 (by decide)
   rw[hv8] at q8;rw[LQ] at q9;have KY:(Dx 8).n=g.points.length+l.length:=by
    rcases vG.fnt.gly.2 with⟨e,_⟩|⟨init',g',ci,e1,-,-,-,h5,-⟩
    ·simp at e
    obtain⟨rfl,e1⟩:=List.append_inj' e1 rfl;obtain rfl:_=g':=by simpa using e1
    exact h5.1.trans hpn.out
   have hG5:G2<W5.heap.size:=hG2;have WN:=vG.live.own 9 (by decide);have ak8:=vG.few 9 (by decide);rw[LQ] at WN;have hI:I64 (((Dx 8).n:Int) - 1):=⟨by omega,by omega⟩
   obtain⟨A6,c6,w10,hrun6,PU,rM,aa1⟩:=iw iO 22 W5 Bd _ c90 A9 _ #[.int .i64 (((Dx 8).n:Int) - 1)] rfl WN (by simp[Value.oneCell']) (by omega) vG.size;rw[<-LQ] at rM aa1;obtain⟨alr,Jh,hq10⟩:∃cur,Bk w10 G2 59 cur/\cur[q+3+1]? =some (Dx 9).v:=by obtain⟨cur,di⟩:=aeM;exact⟨cur,Bk.grown di rM (vG.live.own 9 (by decide)) (by decide),by rw[<-di.cell,q9,LQ]⟩
   have agh:=Bk.grown pK rM (vG.live.own 9 (by decide)) (by decide);have x10:w10.cell? ⟨G2,q+3+1,none⟩=some (Dx 9).v:=(Jh.cell _).trans hq10;have y10:=Jh.frozen (q+3+1);have z10:w10.cell? ⟨w0.heap.size,1,none⟩=some (.int .i64 (l.foldl xG 0)):=agh.cell 1;have FZ:=PSt.apy (m:=1) (K':=K+n) vG (init:=init) rfl VB rM PU aa1 (ys:=[((Dx 8).n:Int) - 1]) rfl (Fl.one (R:=anO) ⟨rfl,hI⟩ rfl) (by omega);rw[<-Hq.out] at FZ;have FZ:=hd0 FZ;have hlen1:1<=(Dx 8).n:=by omega
   have hlen2:(Dx 8).n<=100000000000:=by omega
   have Hm8:=hd0 KY;have ahI:=hd0 (ik.out.trans qK);have akp:=hd0 (HQ.out.trans HQ5);clear hv5 VB gv2 Ql aiW aeM WN PU rM aa1 Jh hq10 agh pK vG qK HQ5 KY lI bP hv8 LQ;generalize (Dx 8).n=m8 at*
   go_wp2_with fail
   go_region
   all_goals
    go_wp2;go_ret
    obtain⟨rv',g1,g2,g3,-⟩:=FZ.out;refine anQ.fin ?_ (ahI.out.trans g3) (akp.out.trans g2) g1;rw[HR.out,Hm8.out]
end
end Go.Proofs.YtkijckccfookeaaGreatDoor
