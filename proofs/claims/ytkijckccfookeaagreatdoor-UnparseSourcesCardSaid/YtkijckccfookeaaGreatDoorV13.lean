/- Lemmas. -/
import Derived.Test.YtkijckccfookeaaGreatDoorV12
set_option linter.unusedVariables false
set_option linter.unusedSimpArgs false
set_option maxRecDepth 100000
set_option maxHeartbeats 32000000
namespace Go.Proofs.YtkijckccfookeaaGreatDoor
open Go.RowKit
section
theorem aic.app {α:Type}{R:Rel α}{size:Nat}{w:World}{S:Bs}{r:RV}{xs ys:List α}{v:Value}{n m:Nat}{cs:List Value}(h:aic R size w S r xs)(hn:n=r.n+m)(hm:m=ys.length)(hf:Fl R size w S cs ys):aic R size w S ⟨v,n,r.xs++cs⟩ (xs++ys):=⟨by simp[hn,hm,h.1],h.2.append hf⟩
section
variable {w w2:World} {Bd p gm cm:Nat} {gl:Gl} {s:PS} {rv:Rows} {K:Nat}
theorem FD.ajU {f:Fnt}{r:RV}{l:List Chr}(h:FD w (Fz w rv) rv f)(t:Tr w rv w2 (upd rv 1 r))(hr:aic ait 2 w2 (Fz w2 (upd rv 1 r)) r l):FD w2 (Fz w2 (upd rv 1 r)) (upd rv 1 r) {f with chars:=l} :=by have k:=h.tr t;exact⟨k.unit,k.gly,hr,k.lks,k.fts,k.axs,k.rgs,k.fns,k.cvt⟩
theorem PSt.ajy (h:PSt w Bd p gm cm gl s rv K){v':Value}{m:Nat}{cs:List Value}{ys:List Chr}(hg:w.grownBy w2 (rv 1).v.ownBlock)(ho:w2.ownsRow Bd (kT 1) (kS 1) v' ((rv 1).n+m) ((rv 1).xs++cs))(hl:Loc w (rv 1).v v')
  (hm:m=ys.length) (hf:Fl ait 2 w (Fz w rv) cs ys) {K':Nat} (hK:K+m<=K'):
  PSt (w2.setCell ⟨p,2,none⟩ v') Bd p gm cm gl {s with f:= {s.f with chars:=s.f.chars++ys}} (upd rv 1 ⟨v',(rv 1).n+m,(rv 1).xs++cs⟩) K'/\KQ cm w (w2.setCell ⟨p,2,none⟩ v'):=by
 have ht:Tr w rv w2 (upd rv 1 ⟨v',(rv 1).n+m,(rv 1).xs++cs⟩):=Tr.row (by decide) hg hl;exact PSt.push (s':= {s with f:= {s.f with chars:=s.f.chars++ys}}) h (i:=1) (by decide) hg ho hl (h.fnt.ajU ht ((h.fnt.chr.tr ait.ok ht).app rfl hm (ht.fl ait.ok hf))) rfl rfl (nt (akA _ _) hK) (nt (akF (h.few 1 (by decide)) m) hK)
theorem FD.ajY {f:Fnt}{r:RV}{l:List aip}(h:FD w (Fz w rv) rv f)(t:Tr w rv w2 (upd rv 3 r))(hr:aic ah2 2 w2 (Fz w2 (upd rv 3 r)) r l):FD w2 (Fz w2 (upd rv 3 r)) (upd rv 3 r) {f with features:=l} :=by have k:=h.tr t;exact⟨k.unit,k.gly,k.chr,k.lks,hr,k.axs,k.rgs,k.fns,k.cvt⟩
theorem PSt.ajC (h:PSt w Bd p gm cm gl s rv K){v':Value}{m:Nat}{cs:List Value}{ys:List aip}(hg:w.grownBy w2 (rv 3).v.ownBlock)(ho:w2.ownsRow Bd (kT 3) (kS 3) v' ((rv 3).n+m) ((rv 3).xs++cs))(hl:Loc w (rv 3).v v')
  (hm:m=ys.length) (hf:Fl ah2 2 w (Fz w rv) cs ys) {K':Nat} (hK:K+m<=K'):
  PSt (w2.setCell ⟨p,4,none⟩ v') Bd p gm cm gl {s with f:= {s.f with features:=s.f.features++ys}} (upd rv 3 ⟨v',(rv 3).n+m,(rv 3).xs++cs⟩) K'/\KQ cm w (w2.setCell ⟨p,4,none⟩ v'):=by
 have ht:Tr w rv w2 (upd rv 3 ⟨v',(rv 3).n+m,(rv 3).xs++cs⟩):=Tr.row (by decide) hg hl;exact PSt.push (s':= {s with f:= {s.f with features:=s.f.features++ys}}) h (i:=3) (by decide) hg ho hl (h.fnt.ajY ht ((h.fnt.fts.tr ah2.ok ht).app rfl hm (ht.fl ah2.ok hf))) rfl rfl (nt (akA _ _) hK) (nt (akF (h.few 3 (by decide)) m) hK)
theorem FD.aj6 {f:Fnt}{r:RV}{l:List aiM}(h:FD w (Fz w rv) rv f)(t:Tr w rv w2 (upd rv 4 r))(hr:aic aij 4 w2 (Fz w2 (upd rv 4 r)) r l):FD w2 (Fz w2 (upd rv 4 r)) (upd rv 4 r) {f with ahQ:=l} :=by have k:=h.tr t;exact⟨k.unit,k.gly,k.chr,k.lks,k.fts,hr,k.rgs,k.fns,k.cvt⟩
theorem PSt.ajA (h:PSt w Bd p gm cm gl s rv K){v':Value}{m:Nat}{cs:List Value}{ys:List aiM}(hg:w.grownBy w2 (rv 4).v.ownBlock)(ho:w2.ownsRow Bd (kT 4) (kS 4) v' ((rv 4).n+m) ((rv 4).xs++cs))(hl:Loc w (rv 4).v v')
  (hm:m=ys.length) (hf:Fl aij 4 w (Fz w rv) cs ys) {K':Nat} (hK:K+m<=K'):
  PSt (w2.setCell ⟨p,5,none⟩ v') Bd p gm cm gl {s with f:= {s.f with ahQ:=s.f.ahQ++ys}} (upd rv 4 ⟨v',(rv 4).n+m,(rv 4).xs++cs⟩) K'/\KQ cm w (w2.setCell ⟨p,5,none⟩ v'):=by
 have ht:Tr w rv w2 (upd rv 4 ⟨v',(rv 4).n+m,(rv 4).xs++cs⟩):=Tr.row (by decide) hg hl;exact PSt.push (s':= {s with f:= {s.f with ahQ:=s.f.ahQ++ys}}) h (i:=4) (by decide) hg ho hl (h.fnt.aj6 ht ((h.fnt.axs.tr aij.ok ht).app rfl hm (ht.fl aij.ok hf))) rfl rfl (nt (akA _ _) hK) (nt (akF (h.few 4 (by decide)) m) hK)
theorem FD.aj1 {f:Fnt}{r:RV}{l:List Region}(h:FD w (Fz w rv) rv f)(t:Tr w rv w2 (upd rv 5 r))(hr:aic ah7 1 w2 (Fz w2 (upd rv 5 r)) r l):FD w2 (Fz w2 (upd rv 5 r)) (upd rv 5 r) {f with regions:=l} :=by have k:=h.tr t;exact⟨k.unit,k.gly,k.chr,k.lks,k.fts,k.axs,hr,k.fns,k.cvt⟩
theorem PSt.ajG (h:PSt w Bd p gm cm gl s rv K){v':Value}{m:Nat}{cs:List Value}{ys:List Region}(hg:w.grownBy w2 (rv 5).v.ownBlock)(ho:w2.ownsRow Bd (kT 5) (kS 5) v' ((rv 5).n+m) ((rv 5).xs++cs))(hl:Loc w (rv 5).v v')
  (hm:m=ys.length) (hf:Fl ah7 1 w (Fz w rv) cs ys) {K':Nat} (hK:K+m<=K'):
  PSt (w2.setCell ⟨p,6,none⟩ v') Bd p gm cm gl {s with f:= {s.f with regions:=s.f.regions++ys}} (upd rv 5 ⟨v',(rv 5).n+m,(rv 5).xs++cs⟩) K'/\KQ cm w (w2.setCell ⟨p,6,none⟩ v'):=by
 have ht:Tr w rv w2 (upd rv 5 ⟨v',(rv 5).n+m,(rv 5).xs++cs⟩):=Tr.row (by decide) hg hl;exact PSt.push (s':= {s with f:= {s.f with regions:=s.f.regions++ys}}) h (i:=5) (by decide) hg ho hl (h.fnt.aj1 ht ((h.fnt.rgs.tr ah7.ok ht).app rfl hm (ht.fl ah7.ok hf))) rfl rfl (nt (akA _ _) hK) (nt (akF (h.few 5 (by decide)) m) hK)
theorem FD.aj3 {f:Fnt}{r:RV}{l:List (List Ins)}(h:FD w (Fz w rv) rv f)(t:Tr w rv w2 (upd rv 6 r))(hr:aic aih 1 w2 (Fz w2 (upd rv 6 r)) r l):FD w2 (Fz w2 (upd rv 6 r)) (upd rv 6 r) {f with funcs:=l} :=by have k:=h.tr t;exact⟨k.unit,k.gly,k.chr,k.lks,k.fts,k.axs,k.rgs,hr,k.cvt⟩
theorem PSt.ajz (h:PSt w Bd p gm cm gl s rv K){v':Value}{m:Nat}{cs:List Value}{ys:List (List Ins)}(hg:w.grownBy w2 (rv 6).v.ownBlock)(ho:w2.ownsRow Bd (kT 6) (kS 6) v' ((rv 6).n+m) ((rv 6).xs++cs))(hl:Loc w (rv 6).v v')
  (hm:m=ys.length) (hf:Fl aih 1 w (Fz w rv) cs ys) {K':Nat} (hK:K+m<=K'):
  PSt (w2.setCell ⟨p,7,none⟩ v') Bd p gm cm gl {s with f:= {s.f with funcs:=s.f.funcs++ys}} (upd rv 6 ⟨v',(rv 6).n+m,(rv 6).xs++cs⟩) K'/\KQ cm w (w2.setCell ⟨p,7,none⟩ v'):=by
 have ht:Tr w rv w2 (upd rv 6 ⟨v',(rv 6).n+m,(rv 6).xs++cs⟩):=Tr.row (by decide) hg hl;exact PSt.push (s':= {s with f:= {s.f with funcs:=s.f.funcs++ys}}) h (i:=6) (by decide) hg ho hl (h.fnt.aj3 ht ((h.fnt.fns.tr aih.ok ht).app rfl hm (ht.fl aih.ok hf))) rfl rfl (nt (akA _ _) hK) (nt (akF (h.few 6 (by decide)) m) hK)
theorem FD.aj7 {f:Fnt}{r:RV}{l:List Int}(h:FD w (Fz w rv) rv f)(t:Tr w rv w2 (upd rv 7 r))(hr:aic ahT 1 w2 (Fz w2 (upd rv 7 r)) r l):FD w2 (Fz w2 (upd rv 7 r)) (upd rv 7 r) {f with cvt:=l} :=by have k:=h.tr t;exact⟨k.unit,k.gly,k.chr,k.lks,k.fts,k.axs,k.rgs,k.fns,hr⟩
theorem PSt.ajL (h:PSt w Bd p gm cm gl s rv K){v':Value}{m:Nat}{cs:List Value}{ys:List Int}(hg:w.grownBy w2 (rv 7).v.ownBlock)(ho:w2.ownsRow Bd (kT 7) (kS 7) v' ((rv 7).n+m) ((rv 7).xs++cs))(hl:Loc w (rv 7).v v')
  (hm:m=ys.length) (hf:Fl ahT 1 w (Fz w rv) cs ys) {K':Nat} (hK:K+m<=K'):
  PSt (w2.setCell ⟨p,8,none⟩ v') Bd p gm cm gl {s with f:= {s.f with cvt:=s.f.cvt++ys}} (upd rv 7 ⟨v',(rv 7).n+m,(rv 7).xs++cs⟩) K'/\KQ cm w (w2.setCell ⟨p,8,none⟩ v'):=by
 have ht:Tr w rv w2 (upd rv 7 ⟨v',(rv 7).n+m,(rv 7).xs++cs⟩):=Tr.row (by decide) hg hl;exact PSt.push (s':= {s with f:= {s.f with cvt:=s.f.cvt++ys}}) h (i:=7) (by decide) hg ho hl (h.fnt.aj7 ht ((h.fnt.cvt.tr ahT.ok ht).app rfl hm (ht.fl ahT.ok hf))) rfl rfl (nt (akA _ _) hK) (nt (akF (h.few 7 (by decide)) m) hK)
end
end
section
attribute [-go_sem] Builtin.append_
structure aif (w:World)(A:Option Addr)(n:Nat)(ws:List P3):Prop where
 rd:RdT w 124 A n 3 (dA ws)
 len:∀x∈ws,x.2.2.length<=800000000
 few:n<=1000000000
theorem aif.length {w:World}{A:Option Addr}{n:Nat}{ws:List P3}(h:aif w A n ws):ws.length=n:=h.rd.rd.aiE
theorem aif.word {w:World}{A:Option Addr}{n:Nat}{ws:List P3}(h:aif w A n ws){k:Nat}{t:B}(hk:(af ws)[k]? =some t){d:Nat}(hd:d=k*3):
  ∃b o,A=some ⟨b,o,none⟩/\b<w.heap.size/\w.cell? ⟨b,o+d+2,none⟩=some (.string ⟨t.toArray⟩)/\t.length<=800000000:=by
 have hk2:=(akn.1 hk).1;rw[iF,h.length] at hk2;obtain⟨b,o,x,y,z,e,hb,hp,q1,q2,q3⟩:=h.rd.rd.at3 hk2;have hz:z=t:=by have:=hp.out;simp only[af,akO,this,Option.map_some,akM] at hk;exact hk
 subst hz;subst hd;exact⟨b,o,e,hb,q3,h.len _ (rU hp.out)⟩
theorem ZV (t:B):N9 (aA t):=by
 unfold aA N9;split
 ·rename_i h;have h2:=h;rw[rM,akK,akW] at h2;have h3:=OT (gu t) (fun c hc=>h2.1 c hc);have h4:(gu t).length<=9:=by have:=h2.2;simp at this;exact this.2
  have h5:10 ^ (gu t).length<=10 ^ 9:=Nat.pow_le_pow_right (by omega) h4;have h6:(10:Nat) ^ 9=1000000000:=rfl;split<;>omega
 omega
theorem N9.i64 {n:Int}(h:N9 n):I64 n:=⟨by have:=h.1;omega,by have:=h.2;omega⟩
theorem dG (t:B):I64 (aA t):=(ZV t).i64
theorem aU {w a b:World}{rb:Nat}(h:Below w.heap.size w a)(hg:a.grownBy b (some rb))(hr:w.heap.size<=rb):Below w.heap.size w b:=h.grown hg h.size (fun k e=>by cases e;exact hr)
theorem dE {ws:List P3}{t:B}{l:List B}(h:af ws=t::l):ws.length=l.length+1:=by have:=congrArg List.length h;simpa [af] using this
theorem Wy (s:PS)(l:List B)(h:l.length≠1):lM s l= .error 22:=by
 unfold lM;split
 ·simp at h
 rfl
theorem Nu (w:World)(Bd p gm cm:Nat)(gl:Gl)(s:PS)(rv:Rows)(K:Nat)(A:Option Addr)(n c:Nat)(ws:List P3)(t:B)(l:List B)(hP:PSt w Bd p gm cm gl s rv K)(hL:aif w A n ws)(hT:af ws=t::l):
  Calls Tryz.prog 73 #[.pointer (some ⟨p,0,none⟩),.slice A n c] w (ahS w Bd p gm cm gl (K+n) (lM s l)):=by
 have hn:n=l.length+1:=by rw[<-hL.length];exact dE hT
 have hB:=hP.size;by_cases h1:l.length=1
 ·obtain⟨t1,rfl⟩:∃t1,l=[t1]:=by
   match l,h1 with
   |[a],_=>exact⟨a,rfl⟩
  obtain⟨b,o,rfl,hb,q1,hz⟩:=hL.word (k:=1) (t:=t1) (by rw[hT];rfl) (d:=3) rfl;simp only[aF,ln] at hn;subst hn;have HP:=hd0 hP;have hpb:p<w.heap.size:=hP.par.lt;have k9:w.cell? ⟨p,9,none⟩=some (.bool s.unit):=hP.par.cell 9;have k0:w.cell? ⟨p,0,none⟩=some (.int .i64 s.f.unit):=hP.par.cell 0;have f9:=hP.par.frozen 9;have f0:=hP.par.frozen 0;have hu:Hid (lM s [t1]=if aG 0 t1≠0 then .error (aG 0 t1) else if s.unit then .error 24 else .ok {s with unit:=true,f:= {s.f with unit:=aA t1}}):=rfl;have hn1:=hd0 (fun w rb h=>dK w rb p 0 t1 h hz);have HNV:=hd0 (dG t1);clear hP hL hT h1 hz;generalize aA t1=nv at*
  generalize aG 0 t1=er at*
  by_cases he:er=0
  ·subst he;cases hsu:s.unit with
   |true=>
    rw[hsu] at k9;have HR:Hid (lM s [t1]= .error 24):=by show _=_;rw[hu.out,hsu];rfl
    clear hu hsu;go_enter Tryz.func73,Tryz.ntmps73
    go_wp2_with (first
     |(go_at_call 121;refine(fZ w p).mono ?_;rintro e w1 ⟨rfl,hr1,hb1⟩;obtain⟨hc1,hf1⟩:=aj hb1)
     |(go_at_call 122;refine(hn1.out w1 _ hr1).mono ?_;rintro e w2 ⟨rfl,hr2,hg2⟩;have hb2:=aU hb1 hg2 (nr _);obtain⟨hc2,hf2⟩:=aj hb2;have k1:=Bk.cell hr2 1;simp only[List.getElem?_toArray,akz,akw] at k1))
    go_ret
    exact ahS.bad HR.out (hb2.mono hB)
   |false=>
    rw[hsu] at k9;have HR:Hid (lM s [t1]= .ok {s with unit:=true,f:= {s.f with unit:=nv}}):=by show _=_;rw[hu.out,hsu];rfl
    clear hu hsu;go_enter Tryz.func73,Tryz.ntmps73
    go_wp2_with (first
     |(go_at_call 121;refine(fZ w p).mono ?_;rintro e w1 ⟨rfl,hr1,hb1⟩;obtain⟨hc1,hf1⟩:=aj hb1)
     |(go_at_call 122;refine(hn1.out w1 _ hr1).mono ?_;rintro e w2 ⟨rfl,hr2,hg2⟩;have hb2:=aU hb1 hg2 (nr _);obtain⟨hc2,hf2⟩:=aj hb2;have k1:=Bk.cell hr2 1;simp only[List.getElem?_toArray,akz,akw] at k1))
    go_ret
    have hP2:=HP.out.below hb2;refine ahS.good HR.out (((hb2.mono hB).setCell hP2.low.1 _).setCell hP2.low.1 _) ?_ (rv':=rv) ?_
    ·exact((KQ.below hb2).trans (KQ.par hP2.par 9 _)).trans (KQ.par (hP2.par.set 9 _) 0 _)
    have hx:=PSt.ajn (s':= {s with unit:=true}) (K:=K+(0+1+1)) hP2.par hP2.live hP2.fnt hP2.gmp hP2.glI hP2.cls (fun j hj=>nt (hP2.few j hj) (by omega)) hP2.low 9 (.bool true) rfl;exact PSt.ajn (s':= {s with unit:=true,f:= {s.f with unit:=nv}}) hx.par hx.live {hx.fnt with unit:=HNV.out} hx.gmp hx.glI hx.cls hx.few hx.low 0 (.int .i64 nv) rfl
  have HR:Hid (lM s [t1]= .error er):=by show _=_;rw[hu.out,if_pos he]
  have e1:(er==0)=false:=by simpa using he
  have e2:(er !=0)=true:=by simpa using he
  clear hu he;go_enter Tryz.func73,Tryz.ntmps73
  go_wp2_with (first
   |(go_at_call 121;refine(fZ w p).mono ?_;rintro e w1 ⟨rfl,hr1,hb1⟩;obtain⟨hc1,hf1⟩:=aj hb1)
   |(go_at_call 122;refine(hn1.out w1 _ hr1).mono ?_;rintro e w2 ⟨rfl,hr2,hg2⟩;have hb2:=aU hb1 hg2 (nr _);have k1:=Bk.cell hr2 1;simp only[List.getElem?_toArray,akz,akw] at k1))
  go_ret
  exact ahS.bad HR.out (hb2.mono hB)
 have HR:=hd0 (Wy s l h1);have e1:((n:Int)==2)=false:=by simp;omega
 have e2:((n:Int) !=2)=true:=by simp;omega
 clear hP hL hT h1 hn;go_enter Tryz.func73,Tryz.ntmps73
 go_wp2;go_ret
 exact ahS.bad HR.out (akl _ _)
end
end Go.Proofs.YtkijckccfookeaaGreatDoor
