/- Lemmas. -/
import Derived.Test.YtkijckccfookeaaGreatDoorPaS
set_option linter.unusedVariables false
set_option linter.unusedSimpArgs false
set_option maxRecDepth 100000
set_option maxHeartbeats 32000000
namespace Go.Proofs.YtkijckccfookeaaGreatDoor
open Go.RowKit
section
theorem Bk.gr {w w':World}{b m:Nat}{t:TypeId}{cs:Array Value}(h:Bk w b t cs)(hg:w.grownBy w' (some m))(hne:b≠m):Bk w' b t cs:=(hg.block b h.lt (fun e=>hne (Option.some.inj e))).trans h
theorem uP {a b c:World}{row:Option Nat}(h:a.grownBy b row)(k:b.grownBy c row):a.grownBy c row:=⟨k.os.trans h.os,k.tape.trans h.tape,k.output.trans h.output,nt h.size k.size,fun i hi hne=>(k.block i (aku hi h.size) hne).trans (h.block i hi hne)⟩
theorem ab8 (w:World)(m i:Nat)(u:Value):w.grownBy (w.setCell ⟨m,i,none⟩ u) (some m):=dL (aC (akl _ _) _) (.inl rfl) u
theorem Sl.gr {α:Type}{R:Rel α}(ok:R.Ok){size:Nat}{w w':World}{Bd m:Nat}{A:Option Addr}{xs:List α}(h:Sl R size w (fun b=>b<Bd) A xs)(hB:Bd<=w.heap.size)(hm:Bd<=m)(hg:w.grownBy w' (some m)):Sl R size w' (fun b=>b<Bd) A xs:=h.keep ok fun b (hb:b<Bd)=>hg.block b (by omega) (fun e=>by injection e with e;omega)
def ER (gs:List ahR):Prop:=∀g∈gs,g.parts.length<=8/\∀p∈g.parts,In gs.length p.ahU
def Tc (gs:List ahR)(i t tb:Nat)(m:List Bool)(w:World)(e:Ending)(w':World):Prop:=∃(b:Bool) (m':List Bool),e= .returned (.bool b)/\Found gs i t m m' b/\tC m'<=tC m/\Bk w' tb 4 (uO m').toArray/\w.grownBy w' (some tb)
theorem Zl (m:List Bool)(p:Nat)(b:Bool):(uO m).toArray.setIfInBounds p (.bool b)=(uO (m.set p b)).toArray:=by simp[uO,List.map_set]
theorem aaK {w:World}{tb:Nat}{m:List Bool}(h:Bk w tb 4 (uO m).toArray){p:Nat}{b:Bool}(hp:m[p]? =some b):w.cell? ⟨tb,p,none⟩=some (.bool b):=by rw[h.cell p,List.getElem?_toArray];exact O5 _ _ _ hp
theorem RZ (f:Fnt)(A1 A2 A3 A4 A5 A6 A7 A8:Option Addr)(c1 c2 c3 c4 c5 c6 c7 c8:Nat)(Bd t:Nat)(hn:f.ahO.length<=400)(hK:ER f.ahO)(N:Nat):∀(w:World) (i tb c:Nat) (m:List Bool),tC m<N->i<f.ahO.length->m.length=f.ahO.length->Bd<=tb->Sl ahW 9 w (fun b=>b<Bd) A1 f.ahO->Bk w tb 4 (uO m).toArray->
  Calls Tryz.prog 110 #[.agg #[.int .i64 f.unit,.slice A1 f.ahO.length c1,.slice A2 f.chars.length c2,.slice A3 f.ahP.length c3,.slice A4 f.features.length c4,.slice A5 f.ahQ.length c5,.slice A6 f.regions.length c6,.slice A7 f.funcs.length c7,.slice A8 f.cvt.length c8],.int .i64 i,.int .i64 t,.slice (some ⟨tb,0,none⟩) f.ahO.length c] w (Tc f.ahO i t tb m w):=by
 induction N with
 |zero=>intro w i tb c m h;omega
 |succ N IH=>
  intro w i tb c m hN hi hm hBd hS hT;have HI:=hd0 IH;clear IH;have hb0:Bd<=w.heap.size:=ak1 (Nat.lt_of_le_of_lt hBd hT.lt);obtain⟨b,o,g,B3,d3,B4,d4,B5,d5,B6,d6,B7,d7,B8,d8,rfl,hbd,hx,-,-,-,-,-,q5,-,-,-,-,-,-,s5,-⟩:=hS.ahU (k:=i) hi;have yS:=hd0 q5;have LQ:=hd0 s5;have HS:=hd0 hS;have HT:=hd0 hT;obtain⟨Es,hgk⟩:=hK g (akt hx.out);have hks:Hid (Ff f.ahO i=g.parts.map (·.ahU)):=hd0 (by unfold Ff;rw[hx.out]);obtain⟨Wf,hWf,hbf,bW⟩:=aQ w 32 #[.int .i64 f.unit,.slice (some ⟨b,o,none⟩) f.ahO.length c1,.slice A2 f.chars.length c2,.slice A3 f.ahP.length c3,.slice A4 f.features.length c4,.slice A5 f.ahQ.length c5,.slice A6 f.regions.length c6,.slice A7 f.funcs.length c7,.slice A8 f.cvt.length c8];have aZ:Hid (Below w.heap.size w Wf):=hd0 hbf;have lg:=hd0 bW;have Ip:=hbf.size;have htb:tb≠w.heap.size:=fun e=>by have:=HT.out.lt;omega
  have htl:tb<w.heap.size:=HT.out.lt;clear hS hT q5 s5 hbf bW;obtain⟨P,HP⟩:∃P:Ending->World->Prop,Hid (P=Tc f.ahO i t tb m w):=⟨_,rfl⟩
  rw[<-HP.out];go_enter Tryz.func110,Tryz.ntmps110
  go_wp2_with fail
  try rw[hWf]
  try clear hWf
  go_loopw [9] (fun i9 wr=>∃(k:Nat) (m1:List Bool),k<=g.parts.length/\i9= .int .i64 k/\Hid (aiW f.ahO ((g.parts.map (·.ahU)).take k) t m m1/\tC m1<=tC m/\Bk wr tb 4 (uO m1).toArray/\Wf.grownBy wr (some tb))) (fun i9 _=>g.parts.length - (intOf i9).toNat)
  case atStart=>exact⟨0,m,by omega,rfl,hd0 ⟨by simpa using aiW.start _ _ _,nr _,HT.out.bel aZ.out,aC (akl _ _) _⟩⟩
  case round=>
   obtain⟨w5,rfl⟩:∃x,x=wr:=⟨_,rfl⟩
   obtain⟨k,m1,hk,rfl,HU⟩:=hrel;have hg5:=HU.out.2.2.2;have UL:Hid (w.grownBy w5 (some tb)):=hd0 (uP (aC aZ.out _) hg5);have Ov:=hd0 (lg.out.gr hg5 (fun e=>htb e.symm));have k1:=Ov.out.cell 1;have q5:w5.cell? ⟨b,o+i*9+5,none⟩=some (.slice B5 g.parts.length d5):=by rw[World.cell?_of_block (a:=⟨b,o+i*9+5,none⟩) (UL.out.block b (by omega) (fun e=>by injection e with e;omega))];exact yS.out
   have hS5:=LQ.out.gr ah6.ok hb0 hBd UL.out;clear hg5;by_cases hkt:k<g.parts.length
   ·obtain⟨b2,o2,x,rfl,hb2,hx2,v0,-⟩:=hS5.part hkt;have hin:=hgk x (akt hx2.out);obtain⟨p,hp⟩:∃p:Nat,x.ahU=p:=⟨x.ahU.toNat,by have:=hin.1;omega⟩
    rw[hp] at v0;have hpn:p<f.ahO.length:=by have:=hin.2;omega
    have abw:Hid ((g.parts.map (·.ahU)).take (k+1)=(g.parts.map (·.ahU)).take k++[(p:Int)]):=hd0 (by
     rw[ak2,akO,hx2.out,<-hp];rfl)
    have hlen1:m1.length=f.ahO.length:=by rw[HU.out.1.len,hm]
    clear hS5 hb2 hx2 hin;by_cases hpt:p=t
    ·subst hpt;go_wp2_with fail
     rw[HP.out];exact⟨true,m1,rfl,⟨HU.out.1.len,HU.out.1.stay,(fun e=>by cases e),fun e=>by cases e⟩,HU.out.2.1,HU.out.2.2.1,UL.out⟩
    have e0:((p:Int)==(t:Int))=false:=by simp;omega
    have n0:(0:Int)<=(p:Int):=by omega
    have n1:(p:Int)<(f.ahO.length:Int):=by omega
    obtain⟨mb,hmb⟩:∃mb,m1[p]? =some mb:=⟨_,ako (by omega)⟩
    have u0:=aaK HU.out.2.2.1 hmb;have uz:=HU.out.2.2.1.frozen p;have Hmb:=hd0 hmb;clear hmb;cases mb
    ·have hT6:Bk (w5.setCell ⟨tb,p,none⟩ (.bool true)) tb 4 (uO (m1.set p true)).toArray:=by
      have:=HU.out.2.2.1.set p (.bool true)
      rwa [Zl] at this
     obtain⟨w6,hw6⟩:∃w6,w5.setCell ⟨tb,p,none⟩ (.bool true)=w6:=⟨_,rfl⟩
     have AP:w5.grownBy w6 (some tb):=hw6 ▸ ab8 w5 tb p _;rw[hw6] at hT6;have vS:=hd0 hT6;have HG6:=hd0 AP;have HH6:Hid (w.grownBy w6 (some tb)):=hd0 (uP UL.out AP);have HK6:=hd0 (Ov.out.gr AP (fun e=>htb e.symm));obtain⟨r0,r1,r2,r3,r4,r5,r6,r7,r8⟩:=nine HK6.out (akl _ _);have hof:=WT Hmb.out;have HO:=hd0 (HI.out w6 p tb c (m1.set p true) (by have:=HU.out.2.1;omega) hpn (by rw[alc];exact hlen1) hBd (HS.out.gr ahW.ok hb0 hBd HH6.out) vS.out);clear hT6 AP;go_wp2_with fail
     try rw[hw6]
     clear hw6;refine HO.out.mono ?_;rintro e w7 ⟨b7,m7,rfl,TK,agB,hT7,EP⟩;have yK:=hd0 TK;have sQ:=hd0 hT7;have Yv:=hd0 EP;clear TK hT7 EP HO r0 r1 r2 r3 r4 r5 r6 r7 r8 q5 k1 u0 uz v0;have aaQ:tC m7<=tC m:=by have:=HU.out.2.1;omega
     cases b7
     ·go_wp2_with fail
      go_roundw
      case rel=>exact⟨k+1,m7,by omega,by simp,hd0 ⟨by rw[abw.out];exact HU.out.1.search hpt (by omega) yK.out,aaQ,sQ.out,uP HU.out.2.2.2 (uP HG6.out Yv.out)⟩⟩
      case measure=>simp[intOf];omega
     go_wp2_with fail
     rw[HP.out];refine⟨true,m7,rfl,⟨?_,fun j hj=>yK.out.stay j ?_,(fun e=>by cases e),fun e=>by cases e⟩,aaQ,sQ.out,uP HH6.out Yv.out⟩
     ·rw[yK.out.len,alc,HU.out.1.len]
     have:=HU.out.1.stay j hj;unfold mV at this ⊢;rw[ald];split
     ·rename_i e;subst e;simp;omega
     exact this
    go_wp2_with fail
    go_roundw
    case rel=>exact⟨k+1,m1,by omega,by simp,hd0 ⟨by rw[abw.out];exact HU.out.1.old hpt Hmb.out,HU.out.2.1,HU.out.2.2.1,HU.out.2.2.2⟩⟩
    case measure=>simp[intOf];omega
   obtain rfl:k=g.parts.length:=by omega
   clear hS5;go_wp2_with fail
   rw[HP.out];have hu:=HU.out.1;rw[akE (by simp)] at hu;exact⟨false,m1,rfl,⟨hu.len,hu.stay,fun _ p hp=>hu.own p (by unfold yI at hp;rwa [hks.out] at hp),fun _=>hu.new⟩,HU.out.2.1,HU.out.2.2.1,UL.out⟩
attribute [-go_sem] Builtin.append_
theorem yD:anchorNames.length=4:=by decide
theorem QR (k:Nat)(s:B)(h:anchorNames[k]? =some s)(w:World):(Instr.index 205 (.agg (strs anchorNames).toArray) (.int .i64 (k:Int))).run Tryz.prog w= .ok (.string ⟨s.toArray⟩) w:=by
 have hk:k<4:=by have:=(akn.1 h).1;rw[yD] at this;exact this
 have hs:=strs_get h;have hk2:(k:Int)<4:=by omega
 have hk3:(0:Int)<=k:=by omega
 simp[Instr.index,go_sem,hk2,hk3,hs];omega
theorem Vm:(strs anchorNames).toArray.size=4:=by simp[uJ,yD]
theorem VT:∀i j:Fin 4,anchorNames[i.val]? =anchorNames[j.val]? ->i=j:=by decide
def aiJ (t:B)(k:Nat)(kv:Int):Prop:=(kv=0/\∀j s,j<k->anchorNames[j]? =some s->s≠t)\/(∃j,j<k/\kv=(j:Int)+1/\anchorNames[j]? =some t)
theorem aiJ.hit {t s:B}{k:Nat}{kv:Int}(_h:aiJ t k kv)(hs:anchorNames[k]? =some s)(e:s=t):aiJ t (k+1) ((k:Int)+1):= .inr ⟨k,by omega,rfl,by rw[hs,e]⟩
theorem aiJ.miss {t s:B}{k:Nat}{kv:Int}(h:aiJ t k kv)(hs:anchorNames[k]? =some s)(e:s≠t):aiJ t (k+1) kv:=by
 rcases h with⟨h1,h2⟩|⟨j,h1,h2,h3⟩
 ·refine .inl ⟨h1,fun j s' hj hs'=> ?_⟩;by_cases hjk:j=k
  ·subst hjk;rw[hs] at hs';cases hs';exact e
  exact h2 j s' (by omega) hs'
 exact .inr ⟨j,by omega,h2,h3⟩
theorem aiJ.done {t:B}{k:Nat}{kv:Int}(h:aiJ t k kv)(hk:4<=k):iR anchorNames t=kv:=by
 have hl:∀j s,anchorNames[j]? =some s->j<4:=fun j s hj=>by have:=(akn.1 hj).1;rw[yD] at this;exact this
 rcases h with⟨h1,h2⟩|⟨j,h1,h2,h3⟩
 ·rw[h1];exact xI _ t fun j s hj=>h2 j s (by have:=hl j s hj;omega) hj
 rw[h2];refine DK _ t j h3 fun i s hi hs e=> ?_
 subst e;have h4:=hl i s hs;have h5:=hl j s h3;have:=VT ⟨i,h4⟩ ⟨j,h5⟩ (hs.trans h3.symm);simp only[Fin.mk.injEq] at this;omega
theorem aiJ.i64 {t:B}{k:Nat}{kv:Int}(h:aiJ t k kv)(hk:k<=4):I64 kv:=by
 rcases h with⟨rfl,_⟩|⟨j,h1,h2,h3⟩
 ·exact⟨by omega,by omega⟩
 exact⟨by omega,by omega⟩
theorem QW (s:PS)(l:List B)(h:l.length≠4):iJ s l= .error 22:=by
 unfold iJ;split
 ·rfl
 split
 ·simp at h
 rfl
abbrev yT:TypeId:=89
theorem Jm (w:World)(Bd p gm cm:Nat)(gl:Gl)(s:PS)(rv:Rows)(K:Nat)(A:Option Addr)(n c:Nat)(ws:List P3)(t:B)(l:List B)(hP:PSt w Bd p gm cm gl s rv K)(hL:aif w A n ws)(hT:af ws=t::l)(hK:K<=10000000000)(jr:ain w){init:List ahR}{g:ahR}(hs:s.f.ahO=init++[g]){G n0 c9 q:Nat}(h0:(rv 0).v= .slice (some ⟨G,0,none⟩) n0 c9)(hq:q=init.length*9):
  Calls Tryz.prog 83 #[.pointer (some ⟨p,0,none⟩),.slice A n c,.pointer (some ⟨G,q,none⟩)] w (ahS w Bd p gm cm gl (K+n) (iJ s l)):=by
 have hn:n=l.length+1:=by rw[<-hL.length];exact dE hT
 have hB:=hP.size;by_cases h1:l.length=4
 ·obtain⟨t1,t2,t3,t4,rfl⟩:∃t1 t2 t3 t4,l=[t1,t2,t3,t4]:=by
   match l,h1 with
   |[a1,a2,a3,a4],_=>exact⟨a1,a2,a3,a4,rfl⟩
  obtain⟨b,o,rfl,hb,q1,hz1⟩:=hL.word (k:=1) (t:=t1) (by rw[hT];rfl) (d:=3) rfl;obtain⟨b',o',e',-,q2,hz2⟩:=hL.word (k:=2) (t:=t2) (by rw[hT];rfl) (d:=6) rfl;obtain⟨rfl,rfl⟩:b=b'/\o=o':=by simpa using e'
  clear e';obtain⟨b',o',e',-,q3,hz3⟩:=hL.word (k:=3) (t:=t3) (by rw[hT];rfl) (d:=9) rfl;obtain⟨rfl,rfl⟩:b=b'/\o=o':=by simpa using e'
  clear e';obtain⟨b',o',e',-,q4,IM⟩:=hL.word (k:=4) (t:=t4) (by rw[hT];rfl) (d:=12) rfl;obtain⟨rfl,rfl⟩:b=b'/\o=o':=by simpa using e'
  clear e';simp only[aF,ln] at hn;subst hn;have HP:=hd0 hP;obtain⟨G',c9',ci,gv,-,-,hGb,jJ,yG,sF⟩:=hP.aiz hs;obtain⟨rfl,hn0,rfl⟩:G'=G/\init.length+1=n0/\c9'=c9:=by rw[gv] at h0;simpa using h0
  have hpb:G'<w.heap.size:=hGb;obtain⟨A0,c0,hv⟩:=hP.slice (i:=11) (by decide);have kp:w.cell? ⟨G',q+6,none⟩=some (rv 11).v:=by rw[hq];exact jJ 6 (by decide)
  rw[hv] at kp;have hfew:=hP.few 11 (by decide);have HR:Hid (iJ s [t1,t2,t3,t4]=if iR anchorNames t1=0 then .error 22 else fin (fB 0 [t2,t3,t4]) {s with f:= {s.f with ahO:=init++[{g with anchors:=g.anchors++[⟨iR anchorNames t1,aA t2,aA t3,aA t4⟩]}]}}):=by show _=_;unfold iJ;rw[if_neg (vG hs)];simp only;rw[sU s _ hs]
  have Hs:=hd0 hs;have Hq:=hd0 hq;have H0:=hd0 h0;have tq:=hd0 sF;have uD:=hd0 (fun w rb er h=>dK w rb p er t2 h hz2);have HI2:=hd0 (dG t2);have TY:=hd0 (fun w rb er h=>dK w rb p er t3 h hz3);have HI3:=hd0 (dG t3);have HN4:=hd0 (fun w rb er h=>dK w rb p er t4 h IM);have HI4:=hd0 (dG t4);generalize aA t2=v2 at*
  generalize aA t3=v3 at*
  generalize aA t4=v4 at*
  obtain⟨ty,fz,hbt⟩:=jr.anch;have acx:2<w.heap.size:=jr.anch.lt;have hix:=hd0 QR;have hsz:=Vm;generalize (strs anchorNames).toArray=cs at*
  have JV:=hd0 (show(Tryz.prog.info? 205).map (·.size)=some cs.size by rw[hsz];kernel_rfl);have Hbt:Hid ((w.alloc (.cells #[.int .i64 0,.int .i64 0,.int .i64 0,.int .i64 0] yT)).heap[2]? =some (.cells cs ty fz)):=(Below.heap_alloc w _ _ acx).trans hbt;have HD1:Hid (Bk (w.alloc (.cells #[.int .i64 0,.int .i64 0,.int .i64 0,.int .i64 0] yT)) w.heap.size yT #[.int .i64 0,.int .i64 0,.int .i64 0,.int .i64 0]):=Bk.new _ _ _;have HB1:Hid (Below w.heap.size w (w.alloc (.cells #[.int .i64 0,.int .i64 0,.int .i64 0,.int .i64 0] yT))):=hd0 ((akl _ _).alloc (nr _) _);clear hsz hP hL hT hz1 hz2 hz3 IM jr hs hq h0 gv jJ yG sF hn0 h1 hbt acx;have HQ1:=hd0 q1;have HQ2:=hd0 q2;have HQ3:=hd0 q3;have HQ4:=hd0 q4;clear q1 q2 q3 q4;go_enter Tryz.func83,Tryz.ntmps83
  go_wp2_with (refine wpList_load_row rfl 205 (.global 2) rfl 2 rfl ty cs fz _ Hbt.out Tryz.underlying205 rfl JV.out ?_)
  go_loopw [15] (fun i wr=>∃(k:Nat) (kv:Int),k<=4/\i= .int .i64 k/\Hid (aiJ t1 k kv)/\Bk wr w.heap.size yT #[.int .i64 kv,.int .i64 0,.int .i64 0,.int .i64 0]/\Below w.heap.size w wr) (fun i _=>4 - (intOf i).toNat)
  case atStart=>exact⟨0,0,by omega,rfl,.inl ⟨rfl,fun j s hj=>by omega⟩,HD1.out,HB1.out⟩
  case round=>
   obtain⟨k,kv,hk,rfl,hl,hD,hbw⟩:=hrel;have d0:wr.cell? ⟨w.heap.size,0,none⟩=some (.int .i64 kv):=hD.cell 0;have d1:=hD.frozen 0;have q1:wr.cell? ⟨b,o+3+2,none⟩=some (.string ⟨t1.toArray⟩):=((aj hbw).1 _ _ hb).trans HQ1.out;have hzw:=hD.lt;by_cases hlt:k<4
   ·obtain⟨nm,hsn⟩:∃nm,anchorNames[k]? =some nm:=⟨_,ako (by rw[yD];exact hlt)⟩
    have hrun:=hix.out k nm hsn;by_cases he:nm=t1
    ·have e1:(nm==t1)=true:=by simp[he]
     have hnx:=hd0 (hl.out.hit hsn he);have HD2:=hd0 (hD.set 0 (.int .i64 ((k:Int)+1)));have HB2:=hd0 (hbw.setCell (p:=⟨w.heap.size,0,none⟩) (nr _) (.int .i64 ((k:Int)+1)));clear hsn he hD hbw hl;go_wp2;go_roundw
     case rel=>exact⟨k+1,(k:Int)+1,by omega,by simp,hnx,HD2.out,HB2.out⟩
     case measure=>simp[intOf];omega
    have e1:(nm==t1)=false:=by simpa using he
    have hnx:=hd0 (hl.out.miss hsn he);have HD2:=hd0 hD;have HB2:=hd0 hbw;clear hsn he hD hbw hl;go_wp2;go_roundw
    case rel=>exact⟨k+1,kv,by omega,by simp,hnx,HD2.out,HB2.out⟩
    case measure=>simp[intOf];omega
   obtain rfl:k=4:=by omega
   have hkn:=hl.out.done (nr _);have HIk:=hd0 (hl.out.i64 (nr _));by_cases hkv:kv=0
   ·have HR2:Hid (iJ s [t1,t2,t3,t4]= .error 22):=by
     show _=_;rw[HR.out,if_pos (by rw[hkn,hkv])]
    subst hkv;have HB2:=hd0 hbw;clear hD hbw hl hkn HIk;go_wp2;go_ret
    exact ahS.bad HR2.out (HB2.out.mono hB)
   have HR2:Hid (iJ s [t1,t2,t3,t4]=fin (fB 0 [t2,t3,t4]) {s with f:= {s.f with ahO:=init++[{g with anchors:=g.anchors++[⟨kv,v2,v3,v4⟩]}]}}):=by show _=_;rw[HR.out,if_neg (by rw[hkn];exact hkv),hkn]
   have e1:(kv==0)=false:=by simpa using hkv
   have HD2:=hd0 hD;have HB2:=hd0 hbw;clear hD hbw hl hkn hkv;go_wp2_with fail
   refine(fZ wr p).mono ?_;rintro e w1 ⟨rfl,hr1,hb1⟩;have hl1:=hr1.lt;have Hb1:Hid (Below w.heap.size w w1):=HB2.out.trans (hb1.mono HB2.out.size);have oL:Hid (Bk w1 w.heap.size yT #[.int .i64 kv,.int .i64 0,.int .i64 0,.int .i64 0]):=HD2.out.keep (hb1.block w.heap.size hzw);have jV:=hd0 hr1;clear hr1 hb1;have hbl:b≠w.heap.size:=by omega
   have hpc:G'≠w.heap.size:=by omega
   have hrw:wr.heap.size≠w.heap.size:=by omega
   have hz0:w.heap.size<=wr.heap.size:=by omega
   have p1:w1.cell? ⟨b,o+6+2,none⟩=some (.string ⟨t2.toArray⟩):=((aj Hb1.out).1 _ _ hb).trans HQ2.out;go_wp2_with fail
   refine(uD.out _ _ _ (by exact jV.out)).mono ?_;rintro e w2 ⟨rfl,hr2,hg2⟩;have hb2:=aU Hb1.out hg2 hz0;have hk2:Bk w2 w.heap.size yT #[.int .i64 kv,.int .i64 0,.int .i64 0,.int .i64 0]:=Bk.kept2 hg2 oL.out (by omega);have Ae:w2.cell? ⟨w.heap.size,1,none⟩=some (.int .i64 0):=hk2.cell 1;have y2:=hk2.frozen 1;have hs2:=hk2.lt;have p2:w2.cell? ⟨b,o+9+2,none⟩=some (.string ⟨t3.toArray⟩):=((aj hb2).1 _ _ hb).trans HQ3.out;have lm:Hid (Rdr (w2.setCell ⟨w.heap.size,1,none⟩ (.int .i64 v2)) wr.heap.size p (aG 0 t2)):=Bk.far hr2 (by simp;omega) _;have Hb2:=hd0 (hb2.setCell (p:=⟨w.heap.size,1,none⟩) (nr _) (.int .i64 v2));have mi:Hid (Bk (w2.setCell ⟨w.heap.size,1,none⟩ (.int .i64 v2)) w.heap.size yT #[.int .i64 kv,.int .i64 v2,.int .i64 0,.int .i64 0]):=hk2.set 1 _;clear hr2 hg2 hb2 hk2;go_wp2_with fail
   refine(TY.out _ _ _ (by exact lm.out)).mono ?_;rintro e w3 ⟨rfl,hr3,hg3⟩;have hb3:=aU Hb2.out hg3 hz0;have hk3:Bk w3 w.heap.size yT #[.int .i64 kv,.int .i64 v2,.int .i64 0,.int .i64 0]:=Bk.kept2 hg3 mi.out (by omega);have Wu:w3.cell? ⟨w.heap.size,2,none⟩=some (.int .i64 0):=hk3.cell 2;have y3:=hk3.frozen 2;have hs3:=hk3.lt;have p3:w3.cell? ⟨b,o+12+2,none⟩=some (.string ⟨t4.toArray⟩):=((aj hb3).1 _ _ hb).trans HQ4.out;have lG:Hid (Rdr (w3.setCell ⟨w.heap.size,2,none⟩ (.int .i64 v3)) wr.heap.size p (aG (aG 0 t2) t3)):=Bk.far hr3 (by simp;omega) _;have Hb3:=hd0 (hb3.setCell (p:=⟨w.heap.size,2,none⟩) (nr _) (.int .i64 v3));have nD:Hid (Bk (w3.setCell ⟨w.heap.size,2,none⟩ (.int .i64 v3)) w.heap.size yT #[.int .i64 kv,.int .i64 v2,.int .i64 v3,.int .i64 0]):=hk3.set 2 _;clear hr3 hg3 hb3 hk3;go_wp2_with fail
   refine(HN4.out _ _ _ (by exact lG.out)).mono ?_;rintro e w4 ⟨rfl,hr4,hg4⟩;have hb4:=aU Hb3.out hg4 hz0;have hk4:Bk w4 w.heap.size yT #[.int .i64 kv,.int .i64 v2,.int .i64 v3,.int .i64 0]:=Bk.kept2 hg4 nD.out (by omega);have aaz:w4.cell? ⟨w.heap.size,3,none⟩=some (.int .i64 0):=hk4.cell 3;have y4:=hk4.frozen 3;have hs4:=hk4.lt;have Tj:Hid (Rdr (w4.setCell ⟨w.heap.size,3,none⟩ (.int .i64 v4)) wr.heap.size p (aG (aG (aG 0 t2) t3) t4)):=Bk.far hr4 (by simp;omega) _;have Hb4:=hd0 (hb4.setCell (p:=⟨w.heap.size,3,none⟩) (nr _) (.int .i64 v4));have Io:Hid (Bk (w4.setCell ⟨w.heap.size,3,none⟩ (.int .i64 v4)) w.heap.size yT #[.int .i64 kv,.int .i64 v2,.int .i64 v3,.int .i64 v4]):=hk4.set 3 _;clear hr4 hg4 hb4 hk4;go_wp2_with fail
   obtain⟨W1,hW1⟩:∃W1,w4.setCell ⟨w.heap.size,3,none⟩ (.int .i64 v4)=W1:=⟨_,rfl⟩
   rw[hW1];have Hr:=Tj;have Hb:=Hb4;have eU:=Io;rw[hW1] at Hr Hb eU;have tN:W1.cell? ⟨w.heap.size,0,none⟩=some (.int .i64 kv):=eU.out.cell 0;have vK:W1.cell? ⟨w.heap.size,1,none⟩=some (.int .i64 v2):=eU.out.cell 1;have yV:W1.cell? ⟨w.heap.size,2,none⟩=some (.int .i64 v3):=eU.out.cell 2;have Bc:W1.cell? ⟨w.heap.size,3,none⟩=some (.int .i64 v4):=eU.out.cell 3;have aB:=HP.out.below Hb.out;have vC:W1.cell? ⟨G',q+6,none⟩=some (.slice A0 (rv 11).n c0):=((aj Hb.out).1 _ _ hpb).trans kp;have zp:G'<W1.heap.size:=aku hpb Hb.out.size;have zc:w.heap.size<W1.heap.size:=eU.out.lt;have zr:wr.heap.size<W1.heap.size:=Hr.out.lt;have hown:=aB.live.own 11 (by decide);rw[hv] at hown;obtain⟨A5,c5,w9,hrun,di,aN,bz⟩:=iE ab4 55 W1 Bd _ c0 A0 _ #[.int .i64 kv,.int .i64 v2,.int .i64 v3,.int .i64 v4] rfl hown (by simp[Value.oneCell']) (by omega) (by omega);rw[<-hv] at aN bz;have bI:∃cur,Bk w9 G' 59 cur/\cur[q+6]? =some (rv 11).v:=by obtain⟨cur,aY⟩:=tq.out;have h1:Bk w9 G' 59 cur:=Bk.grown (aY.keep (Hb.out.block G' hpb)) aN (aB.live.own 11 (by decide)) (by decide);exact⟨cur,h1,by rw[<-aY.cell,kp,hv]⟩
   obtain⟨Gi,bI,ru⟩:=bI;have jw:=Bk.grown Hr.out aN (aB.live.own 11 (by decide)) (by decide);have x9:w9.cell? ⟨G',q+6,none⟩=some (rv 11).v:=(bI.cell _).trans ru;have y9:=bI.frozen (q+6);have z9:w9.cell? ⟨wr.heap.size,1,none⟩=some (.int .i64 (aG (aG (aG 0 t2) t3) t4)):=jw.cell 1;have adM:Hid (fB 0 [t2,t3,t4]=(aG (aG (aG 0 t2) t3) t4)):=rfl;rw[adM.out] at HR2;generalize her:(aG (aG (aG 0 t2) t3) t4)=er at*
   have bG:=hd0 (PSt.aju (m:=1) (K':=K+(0+1+1+1+1+1)) aB Hs.out H0.out aN di bz (ys:=[⟨kv,v2,v3,v4⟩]) rfl (Fl.one (R:=ahY) (⟨rfl,HIk.out,HI2.out,HI3.out,HI4.out⟩) rfl) (by omega));rw[<-Hq.out] at bG;have iy:=hd0 (Hb.out.mono hB);have HQ:=hd0 (KQ.below (cm:=cm) Hb.out);clear hW1 hown di aN bz bI jw aB ru;go_region
   all_goals
    go_wp2;go_ret
    obtain⟨rv',g1,g2,g3,-⟩:=bG.out;exact ahS.fin HR2.out (iy.out.trans g3) (HQ.out.trans g2) g1
 have HR:=hd0 (QW s l h1);have e1:((n:Int)==5)=false:=by simp;omega
 have e2:((n:Int) !=5)=true:=by simp;omega
 clear hP hL hT h1 hn hs h0 hq;go_enter Tryz.func83,Tryz.ntmps83
 go_wp2;go_ret
 exact ahS.bad HR.out (akl _ _)
end
section
def YE (w:World)(e:Ending)(w':World):Prop:=∃s:Int,e= .returned (.int .i64 s)/\Below w.heap.size w w'
theorem Di {w:World}{A:Option Addr}{gs:List ahR}(h:Sl ahW 9 w (Lw w) A gs){i:Nat}(hi:i<gs.length):∃b o g B d A3 c3,A=some ⟨b,o,none⟩/\b<w.heap.size/\gs[i]? =some g/\w.cell? ⟨b,o+i*9+3,none⟩=some (.slice A3 g.points.length c3)/\w.cell? ⟨b,o+i*9+5,none⟩=some (.slice B g.parts.length d)/\Sl ah6 3 w (Lw w) B g.parts:=by obtain⟨b,o,g,A3,c3,A4,c4,A5,c5,A6,c6,A7,c7,A8,c8,e,hb,hx,-,-,-,q3,-,q5,-,-,-,-,-,-,s5,-⟩:=h.ahU hi;exact⟨b,o,g,A5,c5,A3,c3,e,hb,hx.out,q3,q5,s5⟩
theorem Y7 (f:Fnt)(A1 A2 A3 A4 A5 A6 A7 A8:Option Addr)(c1 c2 c3 c4 c5 c6 c7 c8:Nat)(r:Nat->Nat)(hn:f.ahO.length<=400)(hP:∀g∈f.ahO,Big g.points.length)(hK:ER f.ahO)(hr:∀i p,p<f.ahO.length->yI f.ahO i p->r p<r i)(N:Nat):∀(w:World) (i:Nat),r i<N->i<f.ahO.length->Sl ahW 9 w (Lw w) A1 f.ahO->
  Calls Tryz.prog 112 #[.agg #[.int .i64 f.unit,.slice A1 f.ahO.length c1,.slice A2 f.chars.length c2,.slice A3 f.ahP.length c3,.slice A4 f.features.length c4,.slice A5 f.ahQ.length c5,.slice A6 f.regions.length c6,.slice A7 f.funcs.length c7,.slice A8 f.cvt.length c8],.int .i64 i] w (YE w):=by
 induction N with
 |zero=>intro w i h;omega
 |succ N IH=>
  intro w i hN hi hS;have HI:=hd0 IH;clear IH;have hb0:Hid (Sl ahW 9 w (Lw w) A1 f.ahO):=hd0 hS;obtain⟨b,o,g,B,d,Z3,t3,rfl,hbd,hx,q3,q5,s5⟩:=Di hS hi;have yS:=hd0 q5;have LQ:=hd0 s5;have HX:=hd0 hx;obtain⟨Es,hgk⟩:=hK g (akt hx);obtain⟨Wf,hWf,hbf,bW⟩:=aQ w 32 #[.int .i64 f.unit,.slice (some ⟨b,o,none⟩) f.ahO.length c1,.slice A2 f.chars.length c2,.slice A3 f.ahP.length c3,.slice A4 f.features.length c4,.slice A5 f.ahQ.length c5,.slice A6 f.regions.length c6,.slice A7 f.funcs.length c7,.slice A8 f.cvt.length c8];have aZ:Hid (Below w.heap.size w Wf):=hd0 hbf;have lg:=hd0 bW;have k1:=bW.cell 1;have u3:=((aj hbf).1 _ (o+i*9+3) hbd).trans q3;have Ip:=hbf.size;clear hS q3 q5 s5 hx hbf bW;obtain⟨P,HP⟩:∃P:Ending->World->Prop,Hid (P=YE w):=⟨_,rfl⟩
  rw[<-HP.out];have i0:(0:Int)<=(i:Int):=by omega
  have i1:(i:Int)<(f.ahO.length:Int):=by omega
  go_enter Tryz.func112,Tryz.ntmps112
  go_wp2_with fail
  try rw[hWf]
  try clear hWf
  clear k1 u3;go_loopw [5,6] (fun sv iv wr=>∃(k:Nat) (s:Int),k<=g.parts.length/\iv= .int .i64 k/\sv= .int .i64 s/\Below Wf.heap.size Wf wr) (fun _ iv _=>g.parts.length - (intOf iv).toNat)
  case atStart=>exact⟨0,_,by omega,rfl,rfl,akl _ _⟩
  case round=>
   obtain⟨w5,rfl⟩:∃x,x=wr:=⟨_,rfl⟩
   obtain⟨k,s,hk,rfl,rfl,hb5⟩:=hrel;have iD:Hid (Below Wf.heap.size Wf w5):=hd0 hb5;have E5:Hid (Below w.heap.size w w5):=hd0 (aZ.out.trans (hb5.mono Ip));have k1:=lg.out.at hb5 1 rfl;have q5:=((aj E5.out).1 _ (o+i*9+5) hbd).trans yS.out;by_cases hkt:k<g.parts.length
   ·obtain⟨b2,o2,x,rfl,hb2,hx2,v0,-⟩:=LQ.out.part hkt;have hin:=hgk x (akt hx2.out);obtain⟨p,hp⟩:∃p:Nat,x.ahU=p:=⟨x.ahU.toNat,by have:=hin.1;omega⟩
    rw[hp] at v0;have V0:=hd0 v0;have hpn:p<f.ahO.length:=by have:=hin.2;omega
    have hlt:=hr i p hpn (show(p:Int)∈Ff f.ahO i by unfold Ff;rw[HX.out];exact akQ.2 ⟨x,akt hx2.out,hp⟩);have WN:Below Wf.heap.size Wf w5.drew:=hb5.drew;have E5d:Hid (Below w.heap.size w w5.drew):=hd0 E5.out.drew;have S5:=And.intro (nine lg.out WN) (And.intro (((aj E5d.out).1 _ (o+i*9+5) hbd).trans yS.out) (((aj E5d.out).1 _ (o2+k*3) hb2).trans v0));have HO:=hd0 (HI.out w5.drew p (by omega) hpn (hb0.out.lw ahW.ok E5d.out));have uA:=hd0 WN;clear hb5 WN v0 hin hx2;go_wp2_with fail
    go_region_held3 (fun w'=>(w'.cell? ⟨w.heap.size,0,none⟩=some (.int .i64 f.unit)/\w'.cell? ⟨w.heap.size,1,none⟩=some (.slice (some ⟨b,o,none⟩) f.ahO.length c1)/\w'.cell? ⟨w.heap.size,2,none⟩=some (.slice A2 f.chars.length c2)/\w'.cell? ⟨w.heap.size,3,none⟩=some (.slice A3 f.ahP.length c3)/\w'.cell? ⟨w.heap.size,4,none⟩=some (.slice A4 f.features.length c4)/\w'.cell? ⟨w.heap.size,5,none⟩=some (.slice A5 f.ahQ.length c5)/\w'.cell? ⟨w.heap.size,6,none⟩=some (.slice A6 f.regions.length c6)/\w'.cell? ⟨w.heap.size,7,none⟩=some (.slice A7 f.funcs.length c7)/\w'.cell? ⟨w.heap.size,8,none⟩=some (.slice A8 f.cvt.length c8))/\w'.cell? ⟨b,o+i*9+5,none⟩=some (.slice (some ⟨b2,o2,none⟩) g.parts.length d)/\w'.cell? ⟨b2,o2+k*3,none⟩=some (.int .i64 p))
     (first
      |with_reducible exact S5
      |with_reducible exact S6)
     (first
      |(go_at_call 112;refine HO.out.mono ?_;rintro e w6 ⟨s6,rfl,hb6⟩;have gY:Hid (Below Wf.heap.size Wf w6):=hd0 (uA.out.trans (hb6.mono uA.out.size));have E6:Hid (Below w.heap.size w w6):=hd0 (aZ.out.trans (gY.out.mono Ip));have S6:=And.intro (nine lg.out gY.out) (And.intro (((aj E6.out).1 _ (o+i*9+5) hbd).trans yS.out) (((aj E6.out).1 _ (o2+k*3) hb2).trans V0.out));clear hb6)
      |fail "no arm")
    clear S5 S6 HO;go_wp2_with fail
    go_roundw
    case rel=>exact⟨k+1,_,by omega,by simp,rfl,gY.out⟩
    case measure=>simp[intOf];omega
   obtain rfl:k=g.parts.length:=by omega
   clear hb5;go_wp2_with fail
   rw[HP.out];exact⟨s,rfl,E5.out⟩
theorem acV:(Tryz.prog.info? 3).map (fun i=>(i.zero,i.size,i.bytes))=some (some (.int .i64 0),1,8):=by kernel_rfl
theorem Jh (n:Nat)(hn:n<=100000)(w:World):(Instr.makeSlice 22 (.int .i64 (n:Int)) (.int .i64 (n:Int))).run Tryz.prog w= .ok (.slice (some ⟨w.heap.size,0,none⟩) n n) (w.alloc (.cells (aW (List.replicate n 0)).toArray 3)):=by
 obtain⟨i0,hi0,hz0,hz1,hz2⟩:=info_parts acV;have hr:=run_make (P:=Tryz.prog) w 22 3 i0 _ Tryz.underlying22 hi0 hz0 .i64 .i64 n n (by omega) (by omega) (by rw[hz2];omega) (by omega);simp only[Int.toNat_natCast] at hr;rw[hz1] at hr;rw[hr];have e:madeCells (Value.int .i64 0).cells (n*1)=(aW (List.replicate n 0)).toArray:=by have h1:=toList_madeCells_one (.int .i64 0) (n*1);apply Array.toList_inj.1;rw[show(Value.int .i64 0).cells= #[.int .i64 0] from rfl,h1,Nat.mul_one];simp[aW,cI]
 rw[e]
theorem ZP (m:List Int)(p:Nat)(z:Int):(aW m).toArray.setIfInBounds p (.int .i64 z)=(aW (m.set p z)).toArray:=by simp[aW,cI,List.map_set]
theorem JU {w:World}{db:Nat}{m:List Int}(h:Bk w db 3 (aW m).toArray){p:Nat}{z:Int}(hp:m[p]? =some z):w.cell? ⟨db,p,none⟩=some (.int .i64 z):=by rw[h.cell p,List.getElem?_toArray];exact Fq _ _ _ hp
def Yu (n:Nat)(w:World)(e:Ending)(w':World):Prop:=∃(db:Nat) (zs:List Int),e= .returned (.slice (some ⟨db,0,none⟩) n n)/\zs.length=n/\w.heap.size<=db/\Bk w' db 3 (aW zs).toArray/\Below w.heap.size w w'
theorem VA (w:World)(f:Fnt)(A1 A2 A3 A4 A5 A6 A7 A8:Option Addr)(c1 c2 c3 c4 c5 c6 c7 c8:Nat)(hn:f.ahO.length<=400)(hK:ER f.ahO)(hS:Sl ahW 9 w (Lw w) A1 f.ahO):Calls Tryz.prog 111 #[.agg #[.int .i64 f.unit,.slice A1 f.ahO.length c1,.slice A2 f.chars.length c2,.slice A3 f.ahP.length c3,.slice A4 f.features.length c4,.slice A5 f.ahQ.length c5,.slice A6 f.regions.length c6,.slice A7 f.funcs.length c7,.slice A8 f.cvt.length c8]] w (Yu f.ahO.length w):=by
 have HG:=hd0 hS;have hKi:=hK;obtain⟨Wf,hWf,hbf,bW⟩:=aQ w 32 #[.int .i64 f.unit,.slice A1 f.ahO.length c1,.slice A2 f.chars.length c2,.slice A3 f.ahP.length c3,.slice A4 f.features.length c4,.slice A5 f.ahQ.length c5,.slice A6 f.regions.length c6,.slice A7 f.funcs.length c7,.slice A8 f.cvt.length c8];have aZ:Hid (Below w.heap.size w Wf):=hd0 hbf;have lg:=hd0 bW;have Ip:=hbf.size;have k1:=bW.cell 1;have hmk:=Jh f.ahO.length (by omega) Wf;clear hS hbf bW;obtain⟨P,HP⟩:∃P:Ending->World->Prop,Hid (P=Yu f.ahO.length w):=⟨_,rfl⟩
 rw[<-HP.out];go_enter Tryz.func111,Tryz.ntmps111
 go_wp2_with fail
 try clear hWf
 try clear hmk
 go_loopw [4] (fun iv wr=>∃(q:Nat) (zs:List Int),q<=f.ahO.length/\iv= .int .i64 q/\Hid (zs.length=f.ahO.length/\Bk wr Wf.heap.size 3 (aW zs).toArray/\Below Wf.heap.size Wf wr)) (fun iv _=>f.ahO.length - (intOf iv).toNat)
 case atStart=>exact⟨0,List.replicate f.ahO.length 0,by omega,rfl,hd0 ⟨by simp,Bk.new _ _ _,(akl _ _).alloc (nr _) _⟩⟩
 case round=>
  clear k1;obtain⟨w5,rfl⟩:∃x,x=wr:=⟨_,rfl⟩
  obtain⟨q,z5,hq,rfl,H5⟩:=hrel;have Ov:=hd0 (lg.out.bel H5.out.2.2);have E5:Hid (Below w.heap.size w w5):=hd0 (aZ.out.trans (H5.out.2.2.mono Ip));have k1:=Ov.out.cell 1;by_cases hql:q<f.ahO.length
  ·go_wp2_with fail
   go_loopw [5] (fun iv wr=>∃(i:Nat) (zs:List Int),i<=f.ahO.length/\iv= .int .i64 i/\Hid (zs.length=f.ahO.length/\Bk wr Wf.heap.size 3 (aW zs).toArray/\Below Wf.heap.size Wf wr)) (fun iv _=>f.ahO.length - (intOf iv).toNat)
   case atStart=>exact⟨0,z5,by omega,rfl,H5⟩
   case round=>
    clear k1;obtain⟨w6,rfl⟩:∃x,x=wr:=⟨_,rfl⟩
    obtain⟨i,z6,hi,rfl,H6⟩:=hrel;have HK6:=hd0 (lg.out.bel H6.out.2.2);have E6:Hid (Below w.heap.size w w6):=hd0 (aZ.out.trans (H6.out.2.2.mono Ip));have k1:=HK6.out.cell 1;by_cases hil:i<f.ahO.length
    ·obtain⟨b,o,g,B,d,Z3,t3,rfl,hbd,hx,q3,q5,s5⟩:=Di HG.out hil;have yS:=hd0 q5;have LQ:=hd0 s5;obtain⟨Es,hgk⟩:=hKi g (akt hx);clear q3 q5 s5;have q5:=((aj E6.out).1 _ (o+i*9+5) hbd).trans yS.out;go_wp2_with fail
     go_loopw [6] (fun iv wr=>∃(k:Nat) (zs:List Int),k<=g.parts.length/\iv= .int .i64 k/\Hid (zs.length=f.ahO.length/\Bk wr Wf.heap.size 3 (aW zs).toArray/\Below Wf.heap.size Wf wr)) (fun iv _=>g.parts.length - (intOf iv).toNat)
     case atStart=>exact⟨0,z6,by omega,rfl,H6⟩
     case round=>
      clear k1 q5;obtain⟨w7,rfl⟩:∃x,x=wr:=⟨_,rfl⟩
      obtain⟨k,z7,hk,rfl,H7⟩:=hrel;have HK7:=hd0 (lg.out.bel H7.out.2.2);have E7:Hid (Below w.heap.size w w7):=hd0 (aZ.out.trans (H7.out.2.2.mono Ip));have k1:=HK7.out.cell 1;have q5:=((aj E7.out).1 _ (o+i*9+5) hbd).trans yS.out;by_cases hkt:k<g.parts.length
      ·obtain⟨b2,o2,x,rfl,hb2,hx2,v0,-⟩:=LQ.out.part hkt;have hin:=hgk x (akt hx2.out);obtain⟨p,hp⟩:∃p:Nat,x.ahU=p:=⟨x.ahU.toNat,by have:=hin.1;omega⟩
       rw[hp] at v0;have hpn:p<f.ahO.length:=by have:=hin.2;omega
       have n0:(0:Int)<=(p:Int):=by omega
       have n1:(p:Int)<(f.ahO.length:Int):=by omega
       have n2:(0:Int)<=(i:Int):=by omega
       have n3:(i:Int)<(f.ahO.length:Int):=by omega
       have hl7:=H7.out.1;obtain⟨z,hz⟩:∃z,z7[i]? =some z:=⟨_,ako (by omega)⟩
       obtain⟨y,hy⟩:∃y,z7[p]? =some y:=⟨_,ako (by omega)⟩
       have fz:=H7.out.2.1.frozen i;have v0:=((aj E7.out).1 _ (o2+k*3) hb2).trans v0;have u0:=JU H7.out.2.1 hz;have u1:=JU H7.out.2.1 hy;clear hin hx2 hz hy;go_wp2_with fail
       go_region
       have hT8:∀V,Bk (w7.setCell ⟨Wf.heap.size,i,none⟩ (.int .i64 V)).drew Wf.heap.size 3 (aW (z7.set i V)).toArray:=fun V=>by
        have:=H7.out.2.1.set i (.int .i64 V)
        rwa [ZP] at this
       go_wp2_with fail
       go_roundw
       case rel=>exact⟨k+1,z7.set i _,by omega,by simp,hd0 ⟨by rw[alc];exact hl7,hT8 _,(H7.out.2.2.setCell (nr _) _).drew⟩⟩
       case measure=>simp[intOf];omega
      obtain rfl:k=g.parts.length:=by omega
      go_wp2_with fail
      go_roundw
      case rel=>exact⟨i+1,z7,by omega,by simp,H7⟩
      case measure=>simp[intOf];omega
    obtain rfl:i=f.ahO.length:=by omega
    go_wp2_with fail
    go_roundw
    case rel=>exact⟨q+1,z6,by omega,by simp,H6⟩
    case measure=>simp[intOf];omega
  obtain rfl:q=f.ahO.length:=by omega
  go_wp2_with fail
  rw[HP.out];exact⟨Wf.heap.size,z5,rfl,H5.out.1,Ip,H5.out.2.1,E5.out⟩
theorem acY:(Tryz.prog.info? 4).map (fun i=>(i.zero,i.size,i.bytes))=some (some (.bool false),1,1):=by kernel_rfl
theorem Gt (n:Nat)(hn:n<=100000)(w:World):(Instr.makeSlice 184 (.int .i64 (n:Int)) (.int .i64 (n:Int))).run Tryz.prog w= .ok (.slice (some ⟨w.heap.size,0,none⟩) n n) (w.alloc (.cells (uO (List.replicate n false)).toArray 4)):=by
 obtain⟨i0,hi0,hz0,hz1,hz2⟩:=info_parts acY;have hr:=run_make (P:=Tryz.prog) w 184 4 i0 _ Tryz.underlying184 hi0 hz0 .i64 .i64 n n (by omega) (by omega) (by rw[hz2];omega) (by omega);simp only[Int.toNat_natCast] at hr;rw[hz1] at hr;rw[hr];have e:madeCells (Value.bool false).cells (n*1)=(uO (List.replicate n false)).toArray:=by have h1:=toList_madeCells_one (.bool false) (n*1);apply Array.toList_inj.1;rw[show(Value.bool false).cells= #[.bool false] from rfl,h1,Nat.mul_one];simp[uO]
 rw[e]
theorem V8 {α:Type}{R:Rel α}(ok:R.Ok){size:Nat}{w:World}{A:Option Addr}{xs:List α}(h:Sl R size w (Lw w) A xs)(o:Obj):Sl R size (w.drew.alloc o) (fun b=>b<w.heap.size) A xs:=h.keep ok fun b hb=>Below.heap_alloc w.drew o b hb
theorem VB (n j:Nat):¬mV (List.replicate n false) j:=by unfold mV;rw[List.getElem?_replicate];split<;>simp
def ai1 (gs:List ahR)(q:Nat):Prop:=∀a b x y,a<b->b<q->gs[a]? =some x->gs[b]? =some y->x.name≠y.name
structure aiZ (f:Fnt):Prop where
 few:f.ahO.length<=400
 each:∀g∈f.ahO,ajf f.ahO.length f.regions.length g
 apart:ai1 f.ahO f.ahO.length
theorem aiZ.kids {f:Fnt}(h:∀g∈f.ahO,ajf f.ahO.length f.regions.length g):ER f.ahO:=fun g hg=>⟨(h g hg).parts.1,fun p hp=>((h g hg).parts.2 p hp).1⟩
theorem ai1.nodup {gs:List ahR}(h:ai1 gs gs.length):(gs.map (·.name)).Nodup:=by rw[List.Nodup,List.pairwise_map,List.pairwise_iff_getElem];intro a b ha hb hab;exact h a b _ _ hab hb (ako ha) (ako hb)
theorem PV (w:World)(f:Fnt)(A1 A2 A3 A4 A5 A6 A7 A8:Option Addr)(c1 c2 c3 c4 c5 c6 c7 c8:Nat)(hF:FIn ⟨A1,c1,A2,c2,A3,c3,A4,c4,A5,c5,A6,c6,A7,c7,A8,c8⟩ f w)(hng:Big f.ahO.length)(hnr:Big f.regions.length)(hBg:∀g∈f.ahO,ajI g):Calls Tryz.prog 65 #[.agg #[.int .i64 f.unit,.slice A1 f.ahO.length c1,.slice A2 f.chars.length c2,.slice A3 f.ahP.length c3,.slice A4 f.features.length c4,.slice A5 f.ahQ.length c5,.slice A6 f.regions.length c6,.slice A7 f.funcs.length c7,.slice A8 f.cvt.length c8]] w (Ed w (aiZ f)):=by
 obtain⟨P,HP⟩:∃P:Prop,Hid (P=(aiZ f)):=⟨_,rfl⟩
 rw[<-HP.out];have ad3:=hng;unfold Big at ad3;obtain⟨Wf,hWf,hbf,bW⟩:=aQ w 32 #[.int .i64 f.unit,.slice A1 f.ahO.length c1,.slice A2 f.chars.length c2,.slice A3 f.ahP.length c3,.slice A4 f.features.length c4,.slice A5 f.ahQ.length c5,.slice A6 f.regions.length c6,.slice A7 f.funcs.length c7,.slice A8 f.cvt.length c8];have aZ:Hid (Below w.heap.size w Wf):=hd0 hbf;have lg:=hd0 bW;have kN:=hd0 (hF.below hbf);obtain⟨Wg,oH,hbg,hkg⟩:=aQ Wf 107 #[.int .i64 0,.int .i64 0];have dh:Hid (Below w.heap.size w Wg):=hd0 (aZ.out.trans (hbg.mono aZ.out.size));have ak:=hd0 hkg;have aH:Hid (Bk Wg w.heap.size 32 #[.int .i64 f.unit,.slice A1 f.ahO.length c1,.slice A2 f.chars.length c2,.slice A3 f.ahP.length c3,.slice A4 f.features.length c4,.slice A5 f.ahQ.length c5,.slice A6 f.regions.length c6,.slice A7 f.funcs.length c7,.slice A8 f.cvt.length c8]):=hd0 (Bk.bel bW hbg);have HF2:=hd0 (kN.out.below hbg);have hzg:=dh.out.size;have mQ:Hid (Below Wg.heap.size Wg Wg):=hd0 (akl _ _);have k0:=aH.out.cell 0;have k1:=aH.out.cell 1;have k2:=aH.out.cell 2;have k3:=aH.out.cell 3;have k4:=aH.out.cell 4;have k5:=aH.out.cell 5;have k6:=aH.out.cell 6;have k7:=aH.out.cell 7;have k8:=aH.out.cell 8;have g0:=hkg.cell 0;have g1:=hkg.cell 1;have z0:=hkg.frozen 0;have z1:=hkg.frozen 1;clear hF hbf bW hbg hkg kN;go_enter Tryz.func65,Tryz.ntmps65
 by_cases h0:f.ahO.length=0
 ·have b0:((f.ahO.length:Int)==0)=true:=by rw[h0];rfl
  clear h0;go_wp2_with fail
  exact aX rfl ak.out mQ.out aZ.out.size dh.out _ _ rfl (fun h=>absurd h (by decide))
 have b0:((f.ahO.length:Int)==0)=false:=eH (by omega);by_cases h1:400<f.ahO.length
 ·have bh1:decide ((400:Int)<f.ahO.length)=true:=decide_eq_true (by omega);go_wp2_with fail
  exact aX rfl ak.out mQ.out aZ.out.size dh.out _ _ rfl (fun h=>absurd h (by decide))
 have bh1:decide ((400:Int)<f.ahO.length)=false:=decide_eq_false (by omega);have RF:f.ahO.length<=400:=by omega
 go_wp2_with fail
 try clear hWf
 try clear oH
 go_loopw [3] (fun i wr=>∃q:Nat,q<=f.ahO.length/\i= .int .i64 q/\Hid (Up f.ahO q (ajf f.ahO.length f.regions.length)/\ai1 f.ahO q)/\Below Wg.heap.size Wg wr) (fun i _=>f.ahO.length - (intOf i).toNat)
 case atStart=>exact⟨0,by omega,rfl,hd0 ⟨Up.zero _ _,fun a b x y _ h=>by omega⟩,akl _ _⟩
 case round=>
  obtain⟨w5,rfl⟩:∃x,x=wr:=⟨_,rfl⟩
  obtain⟨q,hq,rfl,hup,hb5⟩:=hrel;have iD:Hid (Below Wg.heap.size Wg w5):=hd0 hb5;have E5:Hid (Below w.heap.size w w5):=hd0 (dh.out.trans (hb5.mono hzg));clear k0 k1 k2 k3 k4 k5 k6 k7 k8 g0 g1 z0 z1;obtain⟨k0,k1,k2,k3,k4,k5,k6,k7,k8⟩:=nine aH.out hb5;have g0:=ak.out.at hb5 0 rfl;have g1:=ak.out.at hb5 1 rfl;have z0:=(ak.out.bel hb5).frozen 0;have z1:=(ak.out.bel hb5).frozen 1;by_cases hlt:q<f.ahO.length
  ·obtain⟨x,hx⟩:∃x,f.ahO[q]? =some x:=⟨_,ako hlt⟩
   have Hx:=hd0 hx;have HO:=hd0 (Vl w5 f A1 A2 A3 A4 A5 A6 A7 A8 c1 c2 c3 c4 c5 c6 c7 c8 q (HF2.out.below hb5) x hx hlt hng hnr (hBg x (akt hx)));clear hb5 hx;go_wp2_with fail
   refine HO.out.mono ?_;rintro e w6 ⟨r6,rfl,vk,rD⟩;have hb6:Below Wg.heap.size Wg w6:=iD.out.trans (rD.mono iD.out.size);have gY:Hid (Below Wg.heap.size Wg w6):=hd0 hb6;have E6:Hid (Below w.heap.size w w6):=hd0 (dh.out.trans (hb6.mono hzg));clear k0 k1 k2 k3 k4 k5 k6 k7 k8 g0 g1 z0 z1;obtain⟨k0,k1,k2,k3,k4,k5,k6,k7,k8⟩:=nine aH.out hb6;have g0:=ak.out.at hb6 0 rfl;have g1:=ak.out.at hb6 1 rfl;have z0:=(ak.out.bel hb6).frozen 0;have z1:=(ak.out.bel hb6).frozen 1;clear HO hb6 rD;by_cases hr:r6=0
   ·have dm:Hid (Up f.ahO (q+1) (ajf f.ahO.length f.regions.length)/\ai1 f.ahO (q+1)):=hd0 ⟨hup.out.1.snoc Hx.out (vk hr).1,fun a b x' y' hab hb hxa hyb=>by
     by_cases hbq:b=q
     ·subst hbq;rw[Hx.out] at hyb;cases hyb;exact(vk hr).2 a x' hab hxa
     exact hup.out.2 a b x' y' hab (by omega) hxa hyb⟩
    clear vk;subst hr;go_wp2_with fail
    go_roundw
    case rel=>exact⟨q+1,by omega,by simp,dm,gY.out⟩
    case measure=>simp[intOf];omega
   clear vk;have OU:(r6 !=0)=true:=gI hr;go_wp2_with fail
   exact aX rfl ak.out gY.out aZ.out.size E6.out _ _ rfl (fun h=>absurd h hr)
  obtain rfl:q=f.ahO.length:=by omega
  have HE:=hd0 (fun x (hx:x∈f.ahO)=>hup.out.1.all x hx);have HA:=hd0 hup.out.2;have HK:=hd0 (aiZ.kids HE.out);clear hup hb5;go_wp2_with fail
  go_loopw [5] (fun i wr=>∃q:Nat,q<=f.ahO.length/\i= .int .i64 q/\Hid (∀j,j<q->¬Way f.ahO j j)/\Below Wg.heap.size Wg wr) (fun i _=>f.ahO.length - (intOf i).toNat)
  case atStart=>exact⟨0,by omega,rfl,hd0 (fun j h=>by omega),iD.out⟩
  case round=>
   obtain⟨w7,rfl⟩:∃x,x=wr:=⟨_,rfl⟩
   obtain⟨q,hq,rfl,hup,hb7⟩:=hrel;have nJ:Hid (Below Wg.heap.size Wg w7):=hd0 hb7;have E7:Hid (Below w.heap.size w w7):=hd0 (dh.out.trans (hb7.mono hzg));clear k0 k1 k2 k3 k4 k5 k6 k7 k8 g0 g1 z0 z1;obtain⟨k0,k1,k2,k3,k4,k5,k6,k7,k8⟩:=nine aH.out hb7;have g0:=ak.out.at hb7 0 rfl;have g1:=ak.out.at hb7 1 rfl;have z0:=(ak.out.bel hb7).frozen 0;have z1:=(ak.out.bel hb7).frozen 1;by_cases hlt:q<f.ahO.length
   ·have jG:Hid (Below Wg.heap.size Wg w7.drew):=hd0 nJ.out.drew;have S7:=nine aH.out jG.out;have hmk:=Gt f.ahO.length (by omega) w7.drew;have Yv:=hd0 (HF2.out.below hb7).ahO;clear hb7;go_wp2_with fail
    go_region_held3 (fun w'=>w'.cell? ⟨w.heap.size,0,none⟩=some (.int .i64 f.unit)/\w'.cell? ⟨w.heap.size,1,none⟩=some (.slice A1 f.ahO.length c1)/\w'.cell? ⟨w.heap.size,2,none⟩=some (.slice A2 f.chars.length c2)/\w'.cell? ⟨w.heap.size,3,none⟩=some (.slice A3 f.ahP.length c3)/\w'.cell? ⟨w.heap.size,4,none⟩=some (.slice A4 f.features.length c4)/\w'.cell? ⟨w.heap.size,5,none⟩=some (.slice A5 f.ahQ.length c5)/\w'.cell? ⟨w.heap.size,6,none⟩=some (.slice A6 f.regions.length c6)/\w'.cell? ⟨w.heap.size,7,none⟩=some (.slice A7 f.funcs.length c7)/\w'.cell? ⟨w.heap.size,8,none⟩=some (.slice A8 f.cvt.length c8))
     (first
      |with_reducible exact S7
      |exact nine aH.out (jG.out.alloc jG.out.size _)
      |with_reducible exact S9)
     (first
      |(go_at_call 110;refine(RZ f A1 A2 A3 A4 A5 A6 A7 A8 c1 c2 c3 c4 c5 c6 c7 c8 w7.heap.size q RF HK.out (tC (List.replicate f.ahO.length false)+1) _ q w7.heap.size f.ahO.length (List.replicate f.ahO.length false) (Nat.lt_succ_self _) hlt (by simp) (nr _) (V8 ahW.ok Yv.out _) (Bk.new w7.drew _ _)).mono ?_;rintro e w9 ⟨b9,m9,rfl,O6,-,-,aN⟩;have nO:Hid (Below Wg.heap.size Wg w9):=hd0 ((jG.out.alloc jG.out.size _).grown aN (jG.out.alloc jG.out.size _).size (fun g hg=>by cases hg;exact nJ.out.size));have S9:=nine aH.out nO.out;clear aN)
      |fail "no arm")
    clear S7 S9 hmk;have aY:=nO.out;clear nO;have nO:Hid (Below Wg.heap.size Wg w9):=hd0 aY;have E9:Hid (Below w.heap.size w w9):=hd0 (dh.out.trans (aY.mono hzg));clear k0 k1 k2 k3 k4 k5 k6 k7 k8 g0 g1 z0 z1;obtain⟨k0,k1,k2,k3,k4,k5,k6,k7,k8⟩:=nine aH.out aY;have g0:=ak.out.at aY 0 rfl;have g1:=ak.out.at aY 1 rfl;have z0:=(ak.out.bel aY).frozen 0;have z1:=(ak.out.bel aY).frozen 1;clear aY;cases b9
    ·have dm:Hid (∀j,j<q+1->¬Way f.ahO j j):=hd0 fun j hj=>by
      by_cases hjq:j=q
      ·subst hjq;exact O6.none (VB _)
      exact hup.out j (by omega)
     clear O6;go_wp2_with fail
     go_roundw
     case rel=>exact⟨q+1,by omega,by simp,dm,nO.out⟩
     case measure=>simp[intOf];omega
    clear O6;go_wp2_with fail
    exact aX rfl ak.out nO.out aZ.out.size E9.out _ _ rfl (fun h=>absurd h (by decide))
   obtain rfl:q=f.ahO.length:=by omega
   obtain⟨r,hr⟩:=Acy.rank (gs:=f.ahO) (fun j hj=>hup.out j hj);clear hup;have HO:=hd0 (VA w7 f A1 A2 A3 A4 A5 A6 A7 A8 c1 c2 c3 c4 c5 c6 c7 c8 RF HK.out (HF2.out.below hb7).ahO);clear hb7;go_wp2_with fail
   refine HO.out.mono ?_;rintro e fK ⟨db,zs,rfl,hzs,hdb,hD,Yr⟩;have gy:Below Wg.heap.size Wg fK:=nJ.out.trans (Yr.mono nJ.out.size);have HD:=hd0 hD;have qG:Hid (Below Wg.heap.size Wg fK):=hd0 gy;have E11:Hid (Below w.heap.size w fK):=hd0 (dh.out.trans (gy.mono hzg));clear k0 k1 k2 k3 k4 k5 k6 k7 k8 g0 g1 z0 z1;obtain⟨k0,k1,k2,k3,k4,k5,k6,k7,k8⟩:=nine aH.out gy;have g0:=ak.out.at gy 0 rfl;have g1:=ak.out.at gy 1 rfl;have z0:=(ak.out.bel gy).frozen 0;have z1:=(ak.out.bel gy).frozen 1;clear HO gy Yr hD;go_wp2_with fail
   go_loopw [8] (fun i wr=>∃q:Nat,q<=f.ahO.length/\i= .int .i64 q/\fK=wr) (fun i _=>f.ahO.length - (intOf i).toNat)
   case atStart=>exact⟨0,by omega,rfl,rfl⟩
   case round=>
    obtain⟨q,hq,rfl,rfl⟩:=hrel;by_cases hlt:q<f.ahO.length
    ·obtain⟨z,hz⟩:∃z,zs[q]? =some z:=⟨_,ako (by omega)⟩
     have u0:=JU HD.out hz;clear hz;by_cases hs:4<z
     ·have bs:decide (4<z)=true:=decide_eq_true hs;go_wp2_with fail
      exact aX rfl ak.out qG.out aZ.out.size E11.out _ _ rfl (fun h=>absurd h (by decide))
     have bs:decide (4<z)=false:=decide_eq_false hs;go_wp2_with fail
     go_roundw
     case rel=>exact⟨q+1,by omega,by simp,by trivial⟩
     case measure=>simp[intOf];omega
    obtain rfl:q=f.ahO.length:=by omega
    go_wp2_with fail
    go_loopw [9] (fun i wr=>∃q:Nat,q<=f.ahO.length/\i= .int .i64 q/\Hid (True)/\Below Wg.heap.size Wg wr) (fun i _=>f.ahO.length - (intOf i).toNat)
    case atStart=>exact⟨0,by omega,rfl,hd0 trivial,qG.out⟩
    case round=>
     obtain⟨jP,rfl⟩:∃x,x=wr:=⟨_,rfl⟩
     obtain⟨q,hq,rfl,hup,lS⟩:=hrel;have wu:Hid (Below Wg.heap.size Wg jP):=hd0 lS;have E14:Hid (Below w.heap.size w jP):=hd0 (dh.out.trans (lS.mono hzg));clear k0 k1 k2 k3 k4 k5 k6 k7 k8 g0 g1 z0 z1;obtain⟨k0,k1,k2,k3,k4,k5,k6,k7,k8⟩:=nine aH.out lS;have g0:=ak.out.at lS 0 rfl;have g1:=ak.out.at lS 1 rfl;have z0:=(ak.out.bel lS).frozen 0;have z1:=(ak.out.bel lS).frozen 1;by_cases hlt:q<f.ahO.length
     ·have HO:=hd0 (Y7 f A1 A2 A3 A4 A5 A6 A7 A8 c1 c2 c3 c4 c5 c6 c7 c8 r RF (fun g hg=>(hBg g hg).pts) HK.out hr (r q+1) jP q (Nat.lt_succ_self _) hlt (HF2.out.below lS).ahO);clear lS;go_wp2_with fail
      refine HO.out.mono ?_;rintro e uF ⟨s,rfl,Ym⟩;have pM:Below Wg.heap.size Wg uF:=wu.out.trans (Ym.mono wu.out.size);have tH:Hid (Below Wg.heap.size Wg uF):=hd0 pM;have E15:Hid (Below w.heap.size w uF):=hd0 (dh.out.trans (pM.mono hzg));clear k0 k1 k2 k3 k4 k5 k6 k7 k8 g0 g1 z0 z1;obtain⟨k0,k1,k2,k3,k4,k5,k6,k7,k8⟩:=nine aH.out pM;have g0:=ak.out.at pM 0 rfl;have g1:=ak.out.at pM 1 rfl;have z0:=(ak.out.bel pM).frozen 0;have z1:=(ak.out.bel pM).frozen 1;clear HO pM Ym;by_cases hs:1000<s
      ·have bs:decide (1000<s)=true:=decide_eq_true hs;go_wp2_with fail
       exact aX rfl ak.out tH.out aZ.out.size E15.out _ _ rfl (fun h=>absurd h (by decide))
      have bs:decide (1000<s)=false:=decide_eq_false hs;go_wp2_with fail
      go_roundw
      case rel=>exact⟨q+1,by omega,by simp,hd0 trivial,tH.out⟩
      case measure=>simp[intOf];omega
     obtain rfl:q=f.ahO.length:=by omega
     have hg:P:=HP.out.mpr ⟨RF,HE.out,HA.out⟩;clear lS;go_wp2_with fail
     exact aX rfl ak.out wu.out aZ.out.size E14.out 0 _ rfl (fun _=>hg)
end
end Go.Proofs.YtkijckccfookeaaGreatDoor
