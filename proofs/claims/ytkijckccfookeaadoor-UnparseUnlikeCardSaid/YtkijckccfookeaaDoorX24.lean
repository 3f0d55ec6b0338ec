/- Lemmas. -/
import Derived.Test.YtkijckccfookeaaDoorX22
set_option linter.unusedVariables false
set_option linter.unusedSimpArgs false
set_option maxRecDepth 100000
set_option maxHeartbeats 32000000
namespace Go.Proofs.YtkijckccfookeaaDoor
open Go.RowKit
theorem Bk.gr {w w':World}{b m:Nat}{t:TypeId}{cs:Array Value}(h:Bk w b t cs)(hg:w.grownBy w' (some m))(hne:b≠m):Bk w' b t cs:=(hg.block b h.lt (fun e=>hne (Option.some.inj e))).trans h
theorem rG {a b c:World}{row:Option Nat}(h:a.grownBy b row)(k:b.grownBy c row):a.grownBy c row:=⟨k.os.trans h.os,k.tape.trans h.tape,k.output.trans h.output,nt h.size k.size,fun i hi hne=>(k.block i (agN hi h.size) hne).trans (h.block i hi hne)⟩
theorem Wh (w:World)(m i:Nat)(u:Value):w.grownBy (w.setCell ⟨m,i,none⟩ u) (some m):=bU (dm (agE _ _) _) (.inl rfl) u
theorem Sl.gr {α:Type}{R:Rel α}(ok:R.Ok){size:Nat}{w w':World}{Bd m:Nat}{A:Option Addr}{xs:List α}(h:Sl R size w (fun b=>b<Bd) A xs)(hB:Bd<=w.heap.size)(hm:Bd<=m)(hg:w.grownBy w' (some m)):Sl R size w' (fun b=>b<Bd) A xs:=h.keep ok fun b (hb:b<Bd)=>hg.block b (by omega) (fun e=>by injection e with e;omega)
def BU (gs:List aeS):Prop:=∀g∈gs,g.parts.length<=8/\∀p∈g.parts,In gs.length p.aeT
def OE (gs:List aeS)(i t tb:Nat)(m:List Bool)(w:World)(e:Ending)(w':World):Prop:=∃(b:Bool) (m':List Bool),e= .returned (.bool b)/\Found gs i t m m' b/\qG m'<=qG m/\Bk w' tb 4 (uB m').toArray/\w.grownBy w' (some tb)
theorem Vb (m:List Bool)(p:Nat)(b:Bool):(uB m).toArray.setIfInBounds p (.bool b)=(uB (m.set p b)).toArray:=by simp[uB,List.map_set]
theorem Y7 {w:World}{tb:Nat}{m:List Bool}(h:Bk w tb 4 (uB m).toArray){p:Nat}{b:Bool}(hp:m[p]? =some b):w.cell? ⟨tb,p,none⟩=some (.bool b):=by rw[h.cell p,List.getElem?_toArray];exact Vd _ _ _ hp
theorem KT (f:Fnt)(A1 A2 A3 A4 A5 A6 A7 A8:Option Addr)(c1 c2 c3 c4 c5 c6 c7 c8:Nat)(Bd t:Nat)(hn:f.aeN.length<=400)(hK:BU f.aeN)(N:Nat):∀(w:World) (i tb c:Nat) (m:List Bool),qG m<N->i<f.aeN.length->m.length=f.aeN.length->Bd<=tb->Sl aeU 9 w (fun b=>b<Bd) A1 f.aeN->Bk w tb 4 (uB m).toArray->
  Calls Tryd.prog 76 #[.agg #[.int .i64 f.unit,.slice A1 f.aeN.length c1,.slice A2 f.chars.length c2,.slice A3 f.aeO.length c3,.slice A4 f.features.length c4,.slice A5 f.aeP.length c5,.slice A6 f.regions.length c6,.slice A7 f.funcs.length c7,.slice A8 f.cvt.length c8],.int .i64 i,.int .i64 t,.slice (some ⟨tb,0,none⟩) f.aeN.length c] w (OE f.aeN i t tb m w):=by
 induction N with
 |zero=>intro w i tb c m h;omega
 |succ N IH=>
  intro w i tb c m hN hi hm hBd hS hT;have HI:=hd0 IH;clear IH;have hb0:Bd<=w.heap.size:=ahf (Nat.lt_of_le_of_lt hBd hT.lt);obtain⟨b,o,g,B3,d3,B4,d4,B5,d5,B6,d6,B7,d7,B8,d8,rfl,hbd,hx,-,-,-,-,-,q5,-,-,-,-,-,-,s5,-⟩:=hS.aeT (k:=i) hi;have DZ:=hd0 q5;have Bj:=hd0 s5;have HS:=hd0 hS;have HT:=hd0 hT;obtain⟨Po,hgk⟩:=hK g (agM hx.out);have hks:Hid (BJ f.aeN i=g.parts.map (·.aeT)):=hd0 (by unfold BJ;rw[hx.out]);obtain⟨Wf,hWf,hbf,bD⟩:=aB w 32 #[.int .i64 f.unit,.slice (some ⟨b,o,none⟩) f.aeN.length c1,.slice A2 f.chars.length c2,.slice A3 f.aeO.length c3,.slice A4 f.features.length c4,.slice A5 f.aeP.length c5,.slice A6 f.regions.length c6,.slice A7 f.funcs.length c7,.slice A8 f.cvt.length c8];have aS:Hid (Below w.heap.size w Wf):=hd0 hbf;have iM:=hd0 bD;have rX:=hbf.size;have htb:tb≠w.heap.size:=fun e=>by have:=HT.out.lt;omega
  have htl:tb<w.heap.size:=HT.out.lt;clear hS hT q5 s5 hbf bD;obtain⟨P,HP⟩:∃P:Ending->World->Prop,Hid (P=OE f.aeN i t tb m w):=⟨_,rfl⟩
  rw[<-HP.out];go_enter Tryd.func76,Tryd.ntmps76
  go_wp2_with fail
  try rw[hWf]
  try clear hWf
  go_loopw [9] (fun i9 wr=>∃(k:Nat) (m1:List Bool),k<=g.parts.length/\i9= .int .i64 k/\Hid (afC f.aeN ((g.parts.map (·.aeT)).take k) t m m1/\qG m1<=qG m/\Bk wr tb 4 (uB m1).toArray/\Wf.grownBy wr (some tb))) (fun i9 _=>g.parts.length - (intOf i9).toNat)
  case atStart=>exact⟨0,m,by omega,rfl,hd0 ⟨by simpa using afC.start _ _ _,ai _,HT.out.bel aS.out,dm (agE _ _) _⟩⟩
  case round=>
   obtain⟨w5,rfl⟩:∃x,x=wr:=⟨_,rfl⟩
   obtain⟨k,m1,hk,rfl,HU⟩:=hrel;have hg5:=HU.out.2.2.2;have rP:Hid (w.grownBy w5 (some tb)):=hd0 (rG (dm aS.out _) hg5);have Ux:=hd0 (iM.out.gr hg5 (fun e=>htb e.symm));have k1:=Ux.out.cell 1;have q5:w5.cell? ⟨b,o+i*9+5,none⟩=some (.slice B5 g.parts.length d5):=by rw[World.cell?_of_block (a:=⟨b,o+i*9+5,none⟩) (rP.out.block b (by omega) (fun e=>by injection e with e;omega))];exact DZ.out
   have hS5:=Bj.out.gr afg.ok hb0 hBd rP.out;clear hg5;by_cases hkt:k<g.parts.length
   ·obtain⟨b2,o2,x,rfl,hb2,hx2,v0,-⟩:=hS5.part hkt;have hin:=hgk x (agM hx2.out);obtain⟨p,hp⟩:∃p:Nat,x.aeT=p:=⟨x.aeT.toNat,by have:=hin.1;omega⟩
    rw[hp] at v0;have hpn:p<f.aeN.length:=by have:=hin.2;omega
    have Xm:Hid ((g.parts.map (·.aeT)).take (k+1)=(g.parts.map (·.aeT)).take k++[(p:Int)]):=hd0 (by
     rw[ahg,ag5,hx2.out,<-hp];rfl)
    have hlen1:m1.length=f.aeN.length:=by rw[HU.out.1.len,hm]
    clear hS5 hb2 hx2 hin;by_cases hpt:p=t
    ·subst hpt;go_wp2_with fail
     rw[HP.out];exact⟨true,m1,rfl,⟨HU.out.1.len,HU.out.1.stay,(fun e=>by cases e),fun e=>by cases e⟩,HU.out.2.1,HU.out.2.2.1,rP.out⟩
    have e0:((p:Int)==(t:Int))=false:=by simp;omega
    have n0:(0:Int)<=(p:Int):=by omega
    have n1:(p:Int)<(f.aeN.length:Int):=by omega
    obtain⟨mb,hmb⟩:∃mb,m1[p]? =some mb:=⟨_,agH (by omega)⟩
    have u0:=Y7 HU.out.2.2.1 hmb;have uz:=HU.out.2.2.1.frozen p;have Hmb:=hd0 hmb;clear hmb;cases mb
    ·have Yc:Bk (w5.setCell ⟨tb,p,none⟩ (.bool true)) tb 4 (uB (m1.set p true)).toArray:=by
      have:=HU.out.2.2.1.set p (.bool true)
      rwa [Vb] at this
     obtain⟨w6,hw6⟩:∃w6,w5.setCell ⟨tb,p,none⟩ (.bool true)=w6:=⟨_,rfl⟩
     have Un:w5.grownBy w6 (some tb):=hw6 ▸ Wh w5 tb p _;rw[hw6] at Yc;have JQ:=hd0 Yc;have rY:=hd0 Un;have Oi:Hid (w.grownBy w6 (some tb)):=hd0 (rG rP.out Un);have Y3:=hd0 (Ux.out.gr Un (fun e=>htb e.symm));obtain⟨r0,r1,r2,r3,r4,r5,r6,r7,r8⟩:=nine Y3.out (agE _ _);have hof:=SE Hmb.out;have HO:=hd0 (HI.out w6 p tb c (m1.set p true) (by have:=HU.out.2.1;omega) hpn (by rw[ahm];exact hlen1) hBd (HS.out.gr aeU.ok hb0 hBd Oi.out) JQ.out);clear Yc Un;go_wp2_with fail
     try rw[hw6]
     clear hw6;refine HO.out.mono ?_;rintro e w7 ⟨b7,m7,rfl,hf7,aeI,hT7,hg7⟩;have X3:=hd0 hf7;have BD:=hd0 hT7;have UC:=hd0 hg7;clear hf7 hT7 hg7 HO r0 r1 r2 r3 r4 r5 r6 r7 r8 q5 k1 u0 uz v0;have XU:qG m7<=qG m:=by have:=HU.out.2.1;omega
     cases b7
     ·go_wp2_with fail
      go_roundw
      case rel=>exact⟨k+1,m7,by omega,by simp,hd0 ⟨by rw[Xm.out];exact HU.out.1.search hpt (by omega) X3.out,XU,BD.out,rG HU.out.2.2.2 (rG rY.out UC.out)⟩⟩
      case measure=>simp[intOf];omega
     go_wp2_with fail
     rw[HP.out];refine⟨true,m7,rfl,⟨?_,fun j hj=>X3.out.stay j ?_,(fun e=>by cases e),fun e=>by cases e⟩,XU,BD.out,rG Oi.out UC.out⟩
     ·rw[X3.out.len,ahm,HU.out.1.len]
     have:=HU.out.1.stay j hj;unfold kW at this ⊢;rw[ahn];split
     ·rename_i e;subst e;simp;omega
     exact this
    go_wp2_with fail
    go_roundw
    case rel=>exact⟨k+1,m1,by omega,by simp,hd0 ⟨by rw[Xm.out];exact HU.out.1.old hpt Hmb.out,HU.out.2.1,HU.out.2.2.1,HU.out.2.2.2⟩⟩
    case measure=>simp[intOf];omega
   obtain rfl:k=g.parts.length:=by omega
   clear hS5;go_wp2_with fail
   rw[HP.out];have hu:=HU.out.1;rw[agW (by simp)] at hu;exact⟨false,m1,rfl,⟨hu.len,hu.stay,fun _ p hp=>hu.own p (by unfold vO at hp;rwa [hks.out] at hp),fun _=>hu.new⟩,HU.out.2.1,HU.out.2.2.1,rP.out⟩
def TE (w:World)(e:Ending)(w':World):Prop:=∃s:Int,e= .returned (.int .i64 s)/\Below w.heap.size w w'
theorem zD {w:World}{A:Option Addr}{gs:List aeS}(h:Sl aeU 9 w (Lw w) A gs){i:Nat}(hi:i<gs.length):∃b o g B d A3 c3,A=some ⟨b,o,none⟩/\b<w.heap.size/\gs[i]? =some g/\w.cell? ⟨b,o+i*9+3,none⟩=some (.slice A3 g.points.length c3)/\w.cell? ⟨b,o+i*9+5,none⟩=some (.slice B g.parts.length d)/\Sl afg 3 w (Lw w) B g.parts:=by obtain⟨b,o,g,A3,c3,A4,c4,A5,c5,A6,c6,A7,c7,A8,c8,e,hb,hx,-,-,-,q3,-,q5,-,-,-,-,-,-,s5,-⟩:=h.aeT hi;exact⟨b,o,g,A5,c5,A3,c3,e,hb,hx.out,q3,q5,s5⟩
theorem Vy (f:Fnt)(A1 A2 A3 A4 A5 A6 A7 A8:Option Addr)(c1 c2 c3 c4 c5 c6 c7 c8:Nat)(r:Nat->Nat)(hn:f.aeN.length<=400)(hP:∀g∈f.aeN,Big g.points.length)(hK:BU f.aeN)(hr:∀i p,p<f.aeN.length->vO f.aeN i p->r p<r i)(N:Nat):∀(w:World) (i:Nat),r i<N->i<f.aeN.length->Sl aeU 9 w (Lw w) A1 f.aeN->
  Calls Tryd.prog 78 #[.agg #[.int .i64 f.unit,.slice A1 f.aeN.length c1,.slice A2 f.chars.length c2,.slice A3 f.aeO.length c3,.slice A4 f.features.length c4,.slice A5 f.aeP.length c5,.slice A6 f.regions.length c6,.slice A7 f.funcs.length c7,.slice A8 f.cvt.length c8],.int .i64 i] w (TE w):=by
 induction N with
 |zero=>intro w i h;omega
 |succ N IH=>
  intro w i hN hi hS;have HI:=hd0 IH;clear IH;have hb0:Hid (Sl aeU 9 w (Lw w) A1 f.aeN):=hd0 hS;obtain⟨b,o,g,B,d,Z3,t3,rfl,hbd,hx,q3,q5,s5⟩:=zD hS hi;have DZ:=hd0 q5;have Bj:=hd0 s5;have HX:=hd0 hx;obtain⟨Po,hgk⟩:=hK g (agM hx);obtain⟨Wf,hWf,hbf,bD⟩:=aB w 32 #[.int .i64 f.unit,.slice (some ⟨b,o,none⟩) f.aeN.length c1,.slice A2 f.chars.length c2,.slice A3 f.aeO.length c3,.slice A4 f.features.length c4,.slice A5 f.aeP.length c5,.slice A6 f.regions.length c6,.slice A7 f.funcs.length c7,.slice A8 f.cvt.length c8];have aS:Hid (Below w.heap.size w Wf):=hd0 hbf;have iM:=hd0 bD;have k1:=bD.cell 1;have u3:=((aP hbf).1 _ (o+i*9+3) hbd).trans q3;have rX:=hbf.size;clear hS q3 q5 s5 hx hbf bD;obtain⟨P,HP⟩:∃P:Ending->World->Prop,Hid (P=TE w):=⟨_,rfl⟩
  rw[<-HP.out];have i0:(0:Int)<=(i:Int):=by omega
  have i1:(i:Int)<(f.aeN.length:Int):=by omega
  go_enter Tryd.func78,Tryd.ntmps78
  go_wp2_with fail
  try rw[hWf]
  try clear hWf
  clear k1 u3;go_loopw [5,6] (fun sv iv wr=>∃(k:Nat) (s:Int),k<=g.parts.length/\iv= .int .i64 k/\sv= .int .i64 s/\Below Wf.heap.size Wf wr) (fun _ iv _=>g.parts.length - (intOf iv).toNat)
  case atStart=>exact⟨0,_,by omega,rfl,rfl,agE _ _⟩
  case round=>
   obtain⟨w5,rfl⟩:∃x,x=wr:=⟨_,rfl⟩
   obtain⟨k,s,hk,rfl,rfl,hb5⟩:=hrel;have gq:Hid (Below Wf.heap.size Wf w5):=hd0 hb5;have E5:Hid (Below w.heap.size w w5):=hd0 (aS.out.trans (hb5.mono rX));have k1:=iM.out.at hb5 1 rfl;have q5:=((aP E5.out).1 _ (o+i*9+5) hbd).trans DZ.out;by_cases hkt:k<g.parts.length
   ·obtain⟨b2,o2,x,rfl,hb2,hx2,v0,-⟩:=Bj.out.part hkt;have hin:=hgk x (agM hx2.out);obtain⟨p,hp⟩:∃p:Nat,x.aeT=p:=⟨x.aeT.toNat,by have:=hin.1;omega⟩
    rw[hp] at v0;have V0:=hd0 v0;have hpn:p<f.aeN.length:=by have:=hin.2;omega
    have hlt:=hr i p hpn (show(p:Int)∈BJ f.aeN i by unfold BJ;rw[HX.out];exact ag7.2 ⟨x,agM hx2.out,hp⟩);have QJ:Below Wf.heap.size Wf w5.drew:=hb5.drew;have Yn:Hid (Below w.heap.size w w5.drew):=hd0 E5.out.drew;have S5:=And.intro (nine iM.out QJ) (And.intro (((aP Yn.out).1 _ (o+i*9+5) hbd).trans DZ.out) (((aP Yn.out).1 _ (o2+k*3) hb2).trans v0));have HO:=hd0 (HI.out w5.drew p (by omega) hpn (hb0.out.lw aeU.ok Yn.out));have rF:=hd0 QJ;clear hb5 QJ v0 hin hx2;go_wp2_with fail
    go_region_held3 (fun w'=>(w'.cell? ⟨w.heap.size,0,none⟩=some (.int .i64 f.unit)/\w'.cell? ⟨w.heap.size,1,none⟩=some (.slice (some ⟨b,o,none⟩) f.aeN.length c1)/\w'.cell? ⟨w.heap.size,2,none⟩=some (.slice A2 f.chars.length c2)/\w'.cell? ⟨w.heap.size,3,none⟩=some (.slice A3 f.aeO.length c3)/\w'.cell? ⟨w.heap.size,4,none⟩=some (.slice A4 f.features.length c4)/\w'.cell? ⟨w.heap.size,5,none⟩=some (.slice A5 f.aeP.length c5)/\w'.cell? ⟨w.heap.size,6,none⟩=some (.slice A6 f.regions.length c6)/\w'.cell? ⟨w.heap.size,7,none⟩=some (.slice A7 f.funcs.length c7)/\w'.cell? ⟨w.heap.size,8,none⟩=some (.slice A8 f.cvt.length c8))/\w'.cell? ⟨b,o+i*9+5,none⟩=some (.slice (some ⟨b2,o2,none⟩) g.parts.length d)/\w'.cell? ⟨b2,o2+k*3,none⟩=some (.int .i64 p))
     (first
      |with_reducible exact S5
      |with_reducible exact S6)
     (first
      |(go_at_call 78;refine HO.out.mono ?_;rintro e w6 ⟨s6,rfl,hb6⟩;have dU:Hid (Below Wf.heap.size Wf w6):=hd0 (rF.out.trans (hb6.mono rF.out.size));have E6:Hid (Below w.heap.size w w6):=hd0 (aS.out.trans (dU.out.mono rX));have S6:=And.intro (nine iM.out dU.out) (And.intro (((aP E6.out).1 _ (o+i*9+5) hbd).trans DZ.out) (((aP E6.out).1 _ (o2+k*3) hb2).trans V0.out));clear hb6)
      |fail "no arm")
    clear S5 S6 HO;go_wp2_with fail
    go_roundw
    case rel=>exact⟨k+1,_,by omega,by simp,rfl,dU.out⟩
    case measure=>simp[intOf];omega
   obtain rfl:k=g.parts.length:=by omega
   clear hb5;go_wp2_with fail
   rw[HP.out];exact⟨s,rfl,E5.out⟩
theorem ZY:(Tryd.prog.info? 3).map (fun i=>(i.zero,i.size,i.bytes))=some (some (.int .i64 0),1,8):=by kernel_rfl
theorem Fb (n:Nat)(hn:n<=100000)(w:World):(Instr.makeSlice 22 (.int .i64 (n:Int)) (.int .i64 (n:Int))).run Tryd.prog w= .ok (.slice (some ⟨w.heap.size,0,none⟩) n n) (w.alloc (.cells (aN (List.replicate n 0)).toArray 3)):=by
 obtain⟨i0,hi0,hz0,hz1,hz2⟩:=info_parts ZY;have hr:=run_make (P:=Tryd.prog) w 22 3 i0 _ Tryd.underlying22 hi0 hz0 .i64 .i64 n n (by omega) (by omega) (by rw[hz2];omega) (by omega);simp only[Int.toNat_natCast] at hr;rw[hz1] at hr;rw[hr];have e:madeCells (Value.int .i64 0).cells (n*1)=(aN (List.replicate n 0)).toArray:=by have h1:=toList_madeCells_one (.int .i64 0) (n*1);apply Array.toList_inj.1;rw[show(Value.int .i64 0).cells= #[.int .i64 0] from rfl,h1,Nat.mul_one];simp[aN,cI]
 rw[e]
theorem Vm (m:List Int)(p:Nat)(z:Int):(aN m).toArray.setIfInBounds p (.int .i64 z)=(aN (m.set p z)).toArray:=by simp[aN,cI,List.map_set]
theorem Gg {w:World}{db:Nat}{m:List Int}(h:Bk w db 3 (aN m).toArray){p:Nat}{z:Int}(hp:m[p]? =some z):w.cell? ⟨db,p,none⟩=some (.int .i64 z):=by rw[h.cell p,List.getElem?_toArray];exact Dn _ _ _ hp
def TV (n:Nat)(w:World)(e:Ending)(w':World):Prop:=∃(db:Nat) (zs:List Int),e= .returned (.slice (some ⟨db,0,none⟩) n n)/\zs.length=n/\w.heap.size<=db/\Bk w' db 3 (aN zs).toArray/\Below w.heap.size w w'
theorem Tq (w:World)(f:Fnt)(A1 A2 A3 A4 A5 A6 A7 A8:Option Addr)(c1 c2 c3 c4 c5 c6 c7 c8:Nat)(hn:f.aeN.length<=400)(hK:BU f.aeN)(hS:Sl aeU 9 w (Lw w) A1 f.aeN):Calls Tryd.prog 77 #[.agg #[.int .i64 f.unit,.slice A1 f.aeN.length c1,.slice A2 f.chars.length c2,.slice A3 f.aeO.length c3,.slice A4 f.features.length c4,.slice A5 f.aeP.length c5,.slice A6 f.regions.length c6,.slice A7 f.funcs.length c7,.slice A8 f.cvt.length c8]] w (TV f.aeN.length w):=by
 have HG:=hd0 hS;have hKi:=hK;obtain⟨Wf,hWf,hbf,bD⟩:=aB w 32 #[.int .i64 f.unit,.slice A1 f.aeN.length c1,.slice A2 f.chars.length c2,.slice A3 f.aeO.length c3,.slice A4 f.features.length c4,.slice A5 f.aeP.length c5,.slice A6 f.regions.length c6,.slice A7 f.funcs.length c7,.slice A8 f.cvt.length c8];have aS:Hid (Below w.heap.size w Wf):=hd0 hbf;have iM:=hd0 bD;have rX:=hbf.size;have k1:=bD.cell 1;have hmk:=Fb f.aeN.length (by omega) Wf;clear hS hbf bD;obtain⟨P,HP⟩:∃P:Ending->World->Prop,Hid (P=TV f.aeN.length w):=⟨_,rfl⟩
 rw[<-HP.out];go_enter Tryd.func77,Tryd.ntmps77
 go_wp2_with fail
 try clear hWf
 try clear hmk
 go_loopw [4] (fun iv wr=>∃(q:Nat) (zs:List Int),q<=f.aeN.length/\iv= .int .i64 q/\Hid (zs.length=f.aeN.length/\Bk wr Wf.heap.size 3 (aN zs).toArray/\Below Wf.heap.size Wf wr)) (fun iv _=>f.aeN.length - (intOf iv).toNat)
 case atStart=>exact⟨0,List.replicate f.aeN.length 0,by omega,rfl,hd0 ⟨by simp,Bk.new _ _ _,(agE _ _).alloc (ai _) _⟩⟩
 case round=>
  clear k1;obtain⟨w5,rfl⟩:∃x,x=wr:=⟨_,rfl⟩
  obtain⟨q,z5,hq,rfl,H5⟩:=hrel;have Ux:=hd0 (iM.out.bel H5.out.2.2);have E5:Hid (Below w.heap.size w w5):=hd0 (aS.out.trans (H5.out.2.2.mono rX));have k1:=Ux.out.cell 1;by_cases uC:q<f.aeN.length
  ·go_wp2_with fail
   go_loopw [5] (fun iv wr=>∃(i:Nat) (zs:List Int),i<=f.aeN.length/\iv= .int .i64 i/\Hid (zs.length=f.aeN.length/\Bk wr Wf.heap.size 3 (aN zs).toArray/\Below Wf.heap.size Wf wr)) (fun iv _=>f.aeN.length - (intOf iv).toNat)
   case atStart=>exact⟨0,z5,by omega,rfl,H5⟩
   case round=>
    clear k1;obtain⟨w6,rfl⟩:∃x,x=wr:=⟨_,rfl⟩
    obtain⟨i,z6,hi,rfl,H6⟩:=hrel;have Y3:=hd0 (iM.out.bel H6.out.2.2);have E6:Hid (Below w.heap.size w w6):=hd0 (aS.out.trans (H6.out.2.2.mono rX));have k1:=Y3.out.cell 1;by_cases hil:i<f.aeN.length
    ·obtain⟨b,o,g,B,d,Z3,t3,rfl,hbd,hx,q3,q5,s5⟩:=zD HG.out hil;have DZ:=hd0 q5;have Bj:=hd0 s5;obtain⟨Po,hgk⟩:=hKi g (agM hx);clear q3 q5 s5;have q5:=((aP E6.out).1 _ (o+i*9+5) hbd).trans DZ.out;go_wp2_with fail
     go_loopw [6] (fun iv wr=>∃(k:Nat) (zs:List Int),k<=g.parts.length/\iv= .int .i64 k/\Hid (zs.length=f.aeN.length/\Bk wr Wf.heap.size 3 (aN zs).toArray/\Below Wf.heap.size Wf wr)) (fun iv _=>g.parts.length - (intOf iv).toNat)
     case atStart=>exact⟨0,z6,by omega,rfl,H6⟩
     case round=>
      clear k1 q5;obtain⟨w7,rfl⟩:∃x,x=wr:=⟨_,rfl⟩
      obtain⟨k,z7,hk,rfl,H7⟩:=hrel;have KD:=hd0 (iM.out.bel H7.out.2.2);have E7:Hid (Below w.heap.size w w7):=hd0 (aS.out.trans (H7.out.2.2.mono rX));have k1:=KD.out.cell 1;have q5:=((aP E7.out).1 _ (o+i*9+5) hbd).trans DZ.out;by_cases hkt:k<g.parts.length
      ·obtain⟨b2,o2,x,rfl,hb2,hx2,v0,-⟩:=Bj.out.part hkt;have hin:=hgk x (agM hx2.out);obtain⟨p,hp⟩:∃p:Nat,x.aeT=p:=⟨x.aeT.toNat,by have:=hin.1;omega⟩
       rw[hp] at v0;have hpn:p<f.aeN.length:=by have:=hin.2;omega
       have n0:(0:Int)<=(p:Int):=by omega
       have n1:(p:Int)<(f.aeN.length:Int):=by omega
       have n2:(0:Int)<=(i:Int):=by omega
       have n3:(i:Int)<(f.aeN.length:Int):=by omega
       have hl7:=H7.out.1;obtain⟨z,hz⟩:∃z,z7[i]? =some z:=⟨_,agH (by omega)⟩
       obtain⟨y,hy⟩:∃y,z7[p]? =some y:=⟨_,agH (by omega)⟩
       have fz:=H7.out.2.1.frozen i;have v0:=((aP E7.out).1 _ (o2+k*3) hb2).trans v0;have u0:=Gg H7.out.2.1 hz;have u1:=Gg H7.out.2.1 hy;clear hin hx2 hz hy;go_wp2_with fail
       go_region
       have hT8:∀V,Bk (w7.setCell ⟨Wf.heap.size,i,none⟩ (.int .i64 V)).drew Wf.heap.size 3 (aN (z7.set i V)).toArray:=fun V=>by
        have:=H7.out.2.1.set i (.int .i64 V)
        rwa [Vm] at this
       go_wp2_with fail
       go_roundw
       case rel=>exact⟨k+1,z7.set i _,by omega,by simp,hd0 ⟨by rw[ahm];exact hl7,hT8 _,(H7.out.2.2.setCell (ai _) _).drew⟩⟩
       case measure=>simp[intOf];omega
      obtain rfl:k=g.parts.length:=by omega
      go_wp2_with fail
      go_roundw
      case rel=>exact⟨i+1,z7,by omega,by simp,H7⟩
      case measure=>simp[intOf];omega
    obtain rfl:i=f.aeN.length:=by omega
    go_wp2_with fail
    go_roundw
    case rel=>exact⟨q+1,z6,by omega,by simp,H6⟩
    case measure=>simp[intOf];omega
  obtain rfl:q=f.aeN.length:=by omega
  go_wp2_with fail
  rw[HP.out];exact⟨Wf.heap.size,z5,rfl,H5.out.1,rX,H5.out.2.1,E5.out⟩
theorem aag:(Tryd.prog.info? 4).map (fun i=>(i.zero,i.size,i.bytes))=some (some (.bool false),1,1):=by kernel_rfl
theorem Dv (n:Nat)(hn:n<=100000)(w:World):(Instr.makeSlice 157 (.int .i64 (n:Int)) (.int .i64 (n:Int))).run Tryd.prog w= .ok (.slice (some ⟨w.heap.size,0,none⟩) n n) (w.alloc (.cells (uB (List.replicate n false)).toArray 4)):=by
 obtain⟨i0,hi0,hz0,hz1,hz2⟩:=info_parts aag;have hr:=run_make (P:=Tryd.prog) w 157 4 i0 _ Tryd.underlying157 hi0 hz0 .i64 .i64 n n (by omega) (by omega) (by rw[hz2];omega) (by omega);simp only[Int.toNat_natCast] at hr;rw[hz1] at hr;rw[hr];have e:madeCells (Value.bool false).cells (n*1)=(uB (List.replicate n false)).toArray:=by have h1:=toList_madeCells_one (.bool false) (n*1);apply Array.toList_inj.1;rw[show(Value.bool false).cells= #[.bool false] from rfl,h1,Nat.mul_one];simp[uB]
 rw[e]
theorem Qo {α:Type}{R:Rel α}(ok:R.Ok){size:Nat}{w:World}{A:Option Addr}{xs:List α}(h:Sl R size w (Lw w) A xs)(o:Obj):Sl R size (w.drew.alloc o) (fun b=>b<w.heap.size) A xs:=h.keep ok fun b hb=>Below.heap_alloc w.drew o b hb
theorem Sz (n j:Nat):¬kW (List.replicate n false) j:=by unfold kW;rw[List.getElem?_replicate];split<;>simp
def afG (gs:List aeS)(q:Nat):Prop:=∀a b x y,a<b->b<q->gs[a]? =some x->gs[b]? =some y->x.name≠y.name
structure afF (f:Fnt):Prop where
 few:f.aeN.length<=400
 each:∀g∈f.aeN,afX f.aeN.length f.regions.length g
 apart:afG f.aeN f.aeN.length
theorem afF.kids {f:Fnt}(h:∀g∈f.aeN,afX f.aeN.length f.regions.length g):BU f.aeN:=fun g hg=>⟨(h g hg).parts.1,fun p hp=>((h g hg).parts.2 p hp).1⟩
theorem afG.nodup {gs:List aeS}(h:afG gs gs.length):(gs.map (·.name)).Nodup:=by rw[List.Nodup,List.pairwise_map,List.pairwise_iff_getElem];intro a b ha hb hab;exact h a b _ _ hab hb (agH ha) (agH hb)
theorem MH (w:World)(f:Fnt)(A1 A2 A3 A4 A5 A6 A7 A8:Option Addr)(c1 c2 c3 c4 c5 c6 c7 c8:Nat)(hF:FIn ⟨A1,c1,A2,c2,A3,c3,A4,c4,A5,c5,A6,c6,A7,c7,A8,c8⟩ f w)(hng:Big f.aeN.length)(hnr:Big f.regions.length)(hBg:∀g∈f.aeN,afZ g):Calls Tryd.prog 55 #[.agg #[.int .i64 f.unit,.slice A1 f.aeN.length c1,.slice A2 f.chars.length c2,.slice A3 f.aeO.length c3,.slice A4 f.features.length c4,.slice A5 f.aeP.length c5,.slice A6 f.regions.length c6,.slice A7 f.funcs.length c7,.slice A8 f.cvt.length c8]] w (Aj w (afF f)):=by
 obtain⟨P,HP⟩:∃P:Prop,Hid (P=(afF f)):=⟨_,rfl⟩
 rw[<-HP.out];have aaL:=hng;unfold Big at aaL;obtain⟨Wf,hWf,hbf,bD⟩:=aB w 32 #[.int .i64 f.unit,.slice A1 f.aeN.length c1,.slice A2 f.chars.length c2,.slice A3 f.aeO.length c3,.slice A4 f.features.length c4,.slice A5 f.aeP.length c5,.slice A6 f.regions.length c6,.slice A7 f.funcs.length c7,.slice A8 f.cvt.length c8];have aS:Hid (Below w.heap.size w Wf):=hd0 hbf;have iM:=hd0 bD;have jK:=hd0 (hF.below hbf);obtain⟨Wg,kZ,hbg,hkg⟩:=aB Wf 107 #[.int .i64 0,.int .i64 0];have bV:Hid (Below w.heap.size w Wg):=hd0 (aS.out.trans (hbg.mono aS.out.size));have aj:=hd0 hkg;have aG:Hid (Bk Wg w.heap.size 32 #[.int .i64 f.unit,.slice A1 f.aeN.length c1,.slice A2 f.chars.length c2,.slice A3 f.aeO.length c3,.slice A4 f.features.length c4,.slice A5 f.aeP.length c5,.slice A6 f.regions.length c6,.slice A7 f.funcs.length c7,.slice A8 f.cvt.length c8]):=hd0 (Bk.bel bD hbg);have HF2:=hd0 (jK.out.below hbg);have hzg:=bV.out.size;have kX:Hid (Below Wg.heap.size Wg Wg):=hd0 (agE _ _);have k0:=aG.out.cell 0;have k1:=aG.out.cell 1;have k2:=aG.out.cell 2;have k3:=aG.out.cell 3;have k4:=aG.out.cell 4;have k5:=aG.out.cell 5;have k6:=aG.out.cell 6;have k7:=aG.out.cell 7;have k8:=aG.out.cell 8;have g0:=hkg.cell 0;have g1:=hkg.cell 1;have z0:=hkg.frozen 0;have z1:=hkg.frozen 1;clear hF hbf bD hbg hkg jK;go_enter Tryd.func55,Tryd.ntmps55
 by_cases h0:f.aeN.length=0
 ·have b0:((f.aeN.length:Int)==0)=true:=by rw[h0];rfl
  clear h0;go_wp2_with fail
  exact aT rfl aj.out kX.out aS.out.size bV.out _ _ rfl (fun h=>absurd h (by decide))
 have b0:((f.aeN.length:Int)==0)=false:=dJ (by omega);by_cases h1:400<f.aeN.length
 ·have bh1:decide ((400:Int)<f.aeN.length)=true:=decide_eq_true (by omega);go_wp2_with fail
  exact aT rfl aj.out kX.out aS.out.size bV.out _ _ rfl (fun h=>absurd h (by decide))
 have bh1:decide ((400:Int)<f.aeN.length)=false:=decide_eq_false (by omega);have Lu:f.aeN.length<=400:=by omega
 go_wp2_with fail
 try clear hWf
 try clear kZ
 go_loopw [3] (fun i wr=>∃q:Nat,q<=f.aeN.length/\i= .int .i64 q/\Hid (Up f.aeN q (afX f.aeN.length f.regions.length)/\afG f.aeN q)/\Below Wg.heap.size Wg wr) (fun i _=>f.aeN.length - (intOf i).toNat)
 case atStart=>exact⟨0,by omega,rfl,hd0 ⟨Up.zero _ _,fun a b x y _ h=>by omega⟩,agE _ _⟩
 case round=>
  obtain⟨w5,rfl⟩:∃x,x=wr:=⟨_,rfl⟩
  obtain⟨q,hq,rfl,hup,hb5⟩:=hrel;have gq:Hid (Below Wg.heap.size Wg w5):=hd0 hb5;have E5:Hid (Below w.heap.size w w5):=hd0 (bV.out.trans (hb5.mono hzg));clear k0 k1 k2 k3 k4 k5 k6 k7 k8 g0 g1 z0 z1;obtain⟨k0,k1,k2,k3,k4,k5,k6,k7,k8⟩:=nine aG.out hb5;have g0:=aj.out.at hb5 0 rfl;have g1:=aj.out.at hb5 1 rfl;have z0:=(aj.out.bel hb5).frozen 0;have z1:=(aj.out.bel hb5).frozen 1;by_cases hlt:q<f.aeN.length
  ·obtain⟨x,hx⟩:∃x,f.aeN[q]? =some x:=⟨_,agH hlt⟩
   have Hx:=hd0 hx;have HO:=hd0 (Ot w5 f A1 A2 A3 A4 A5 A6 A7 A8 c1 c2 c3 c4 c5 c6 c7 c8 q (HF2.out.below hb5) x hx hlt hng hnr (hBg x (agM hx)));clear hb5 hx;go_wp2_with fail
   refine HO.out.mono ?_;rintro e w6 ⟨r6,rfl,tu,oU⟩;have hb6:Below Wg.heap.size Wg w6:=gq.out.trans (oU.mono gq.out.size);have dU:Hid (Below Wg.heap.size Wg w6):=hd0 hb6;have E6:Hid (Below w.heap.size w w6):=hd0 (bV.out.trans (hb6.mono hzg));clear k0 k1 k2 k3 k4 k5 k6 k7 k8 g0 g1 z0 z1;obtain⟨k0,k1,k2,k3,k4,k5,k6,k7,k8⟩:=nine aG.out hb6;have g0:=aj.out.at hb6 0 rfl;have g1:=aj.out.at hb6 1 rfl;have z0:=(aj.out.bel hb6).frozen 0;have z1:=(aj.out.bel hb6).frozen 1;clear HO hb6 oU;by_cases hr:r6=0
   ·have bY:Hid (Up f.aeN (q+1) (afX f.aeN.length f.regions.length)/\afG f.aeN (q+1)):=hd0 ⟨hup.out.1.snoc Hx.out (tu hr).1,fun a b x' y' hab hb hxa hyb=>by
     by_cases hbq:b=q
     ·subst hbq;rw[Hx.out] at hyb;cases hyb;exact(tu hr).2 a x' hab hxa
     exact hup.out.2 a b x' y' hab (by omega) hxa hyb⟩
    clear tu;subst hr;go_wp2_with fail
    go_roundw
    case rel=>exact⟨q+1,by omega,by simp,bY,dU.out⟩
    case measure=>simp[intOf];omega
   clear tu;have Jz:(r6 !=0)=true:=eU hr;go_wp2_with fail
   exact aT rfl aj.out dU.out aS.out.size E6.out _ _ rfl (fun h=>absurd h hr)
  obtain rfl:q=f.aeN.length:=by omega
  have HE:=hd0 (fun x (hx:x∈f.aeN)=>hup.out.1.all x hx);have HA:=hd0 hup.out.2;have HK:=hd0 (afF.kids HE.out);clear hup hb5;go_wp2_with fail
  go_loopw [5] (fun i wr=>∃q:Nat,q<=f.aeN.length/\i= .int .i64 q/\Hid (∀j,j<q->¬Way f.aeN j j)/\Below Wg.heap.size Wg wr) (fun i _=>f.aeN.length - (intOf i).toNat)
  case atStart=>exact⟨0,by omega,rfl,hd0 (fun j h=>by omega),gq.out⟩
  case round=>
   obtain⟨w7,rfl⟩:∃x,x=wr:=⟨_,rfl⟩
   obtain⟨q,hq,rfl,hup,hb7⟩:=hrel;have jI:Hid (Below Wg.heap.size Wg w7):=hd0 hb7;have E7:Hid (Below w.heap.size w w7):=hd0 (bV.out.trans (hb7.mono hzg));clear k0 k1 k2 k3 k4 k5 k6 k7 k8 g0 g1 z0 z1;obtain⟨k0,k1,k2,k3,k4,k5,k6,k7,k8⟩:=nine aG.out hb7;have g0:=aj.out.at hb7 0 rfl;have g1:=aj.out.at hb7 1 rfl;have z0:=(aj.out.bel hb7).frozen 0;have z1:=(aj.out.bel hb7).frozen 1;by_cases hlt:q<f.aeN.length
   ·have iZ:Hid (Below Wg.heap.size Wg w7.drew):=hd0 jI.out.drew;have S7:=nine aG.out iZ.out;have hmk:=Dv f.aeN.length (by omega) w7.drew;have UC:=hd0 (HF2.out.below hb7).aeN;clear hb7;go_wp2_with fail
    go_region_held3 (fun w'=>w'.cell? ⟨w.heap.size,0,none⟩=some (.int .i64 f.unit)/\w'.cell? ⟨w.heap.size,1,none⟩=some (.slice A1 f.aeN.length c1)/\w'.cell? ⟨w.heap.size,2,none⟩=some (.slice A2 f.chars.length c2)/\w'.cell? ⟨w.heap.size,3,none⟩=some (.slice A3 f.aeO.length c3)/\w'.cell? ⟨w.heap.size,4,none⟩=some (.slice A4 f.features.length c4)/\w'.cell? ⟨w.heap.size,5,none⟩=some (.slice A5 f.aeP.length c5)/\w'.cell? ⟨w.heap.size,6,none⟩=some (.slice A6 f.regions.length c6)/\w'.cell? ⟨w.heap.size,7,none⟩=some (.slice A7 f.funcs.length c7)/\w'.cell? ⟨w.heap.size,8,none⟩=some (.slice A8 f.cvt.length c8))
     (first
      |with_reducible exact S7
      |exact nine aG.out (iZ.out.alloc iZ.out.size _)
      |with_reducible exact S9)
     (first
      |(go_at_call 76;refine(KT f A1 A2 A3 A4 A5 A6 A7 A8 c1 c2 c3 c4 c5 c6 c7 c8 w7.heap.size q Lu HK.out (qG (List.replicate f.aeN.length false)+1) _ q w7.heap.size f.aeN.length (List.replicate f.aeN.length false) (Nat.lt_succ_self _) hlt (by simp) (ai _) (Qo aeU.ok UC.out _) (Bk.new w7.drew _ _)).mono ?_;rintro e w9 ⟨b9,m9,rfl,Yl,-,-,dA⟩;have fM:Hid (Below Wg.heap.size Wg w9):=hd0 ((iZ.out.alloc iZ.out.size _).grown dA (iZ.out.alloc iZ.out.size _).size (fun g hg=>by cases hg;exact jI.out.size));have S9:=nine aG.out fM.out;clear dA)
      |fail "no arm")
    clear S7 S9 hmk;have jO:=fM.out;clear fM;have fM:Hid (Below Wg.heap.size Wg w9):=hd0 jO;have E9:Hid (Below w.heap.size w w9):=hd0 (bV.out.trans (jO.mono hzg));clear k0 k1 k2 k3 k4 k5 k6 k7 k8 g0 g1 z0 z1;obtain⟨k0,k1,k2,k3,k4,k5,k6,k7,k8⟩:=nine aG.out jO;have g0:=aj.out.at jO 0 rfl;have g1:=aj.out.at jO 1 rfl;have z0:=(aj.out.bel jO).frozen 0;have z1:=(aj.out.bel jO).frozen 1;clear jO;cases b9
    ·have bY:Hid (∀j,j<q+1->¬Way f.aeN j j):=hd0 fun j hj=>by
      by_cases hjq:j=q
      ·subst hjq;exact Yl.none (Sz _)
      exact hup.out j (by omega)
     clear Yl;go_wp2_with fail
     go_roundw
     case rel=>exact⟨q+1,by omega,by simp,bY,fM.out⟩
     case measure=>simp[intOf];omega
    clear Yl;go_wp2_with fail
    exact aT rfl aj.out fM.out aS.out.size E9.out _ _ rfl (fun h=>absurd h (by decide))
   obtain rfl:q=f.aeN.length:=by omega
   obtain⟨r,hr⟩:=Acy.rank (gs:=f.aeN) (fun j hj=>hup.out j hj);clear hup;have HO:=hd0 (Tq w7 f A1 A2 A3 A4 A5 A6 A7 A8 c1 c2 c3 c4 c5 c6 c7 c8 Lu HK.out (HF2.out.below hb7).aeN);clear hb7;go_wp2_with fail
   refine HO.out.mono ?_;rintro e BC ⟨db,zs,rfl,hzs,UB,hD,Uh⟩;have mO:Below Wg.heap.size Wg BC:=jI.out.trans (Uh.mono jI.out.size);have HD:=hd0 hD;have tV:Hid (Below Wg.heap.size Wg BC):=hd0 mO;have E11:Hid (Below w.heap.size w BC):=hd0 (bV.out.trans (mO.mono hzg));clear k0 k1 k2 k3 k4 k5 k6 k7 k8 g0 g1 z0 z1;obtain⟨k0,k1,k2,k3,k4,k5,k6,k7,k8⟩:=nine aG.out mO;have g0:=aj.out.at mO 0 rfl;have g1:=aj.out.at mO 1 rfl;have z0:=(aj.out.bel mO).frozen 0;have z1:=(aj.out.bel mO).frozen 1;clear HO mO Uh hD;go_wp2_with fail
   go_loopw [8] (fun i wr=>∃q:Nat,q<=f.aeN.length/\i= .int .i64 q/\BC=wr) (fun i _=>f.aeN.length - (intOf i).toNat)
   case atStart=>exact⟨0,by omega,rfl,rfl⟩
   case round=>
    obtain⟨q,hq,rfl,rfl⟩:=hrel;by_cases hlt:q<f.aeN.length
    ·obtain⟨z,hz⟩:∃z,zs[q]? =some z:=⟨_,agH (by omega)⟩
     have u0:=Gg HD.out hz;clear hz;by_cases hs:4<z
     ·have bs:decide (4<z)=true:=decide_eq_true hs;go_wp2_with fail
      exact aT rfl aj.out tV.out aS.out.size E11.out _ _ rfl (fun h=>absurd h (by decide))
     have bs:decide (4<z)=false:=decide_eq_false hs;go_wp2_with fail
     go_roundw
     case rel=>exact⟨q+1,by omega,by simp,by trivial⟩
     case measure=>simp[intOf];omega
    obtain rfl:q=f.aeN.length:=by omega
    go_wp2_with fail
    go_loopw [9] (fun i wr=>∃q:Nat,q<=f.aeN.length/\i= .int .i64 q/\Hid (True)/\Below Wg.heap.size Wg wr) (fun i _=>f.aeN.length - (intOf i).toNat)
    case atStart=>exact⟨0,by omega,rfl,hd0 trivial,tV.out⟩
    case round=>
     obtain⟨Yb,rfl⟩:∃x,x=wr:=⟨_,rfl⟩
     obtain⟨q,hq,rfl,hup,tJ⟩:=hrel;have Rk:Hid (Below Wg.heap.size Wg Yb):=hd0 tJ;have E14:Hid (Below w.heap.size w Yb):=hd0 (bV.out.trans (tJ.mono hzg));clear k0 k1 k2 k3 k4 k5 k6 k7 k8 g0 g1 z0 z1;obtain⟨k0,k1,k2,k3,k4,k5,k6,k7,k8⟩:=nine aG.out tJ;have g0:=aj.out.at tJ 0 rfl;have g1:=aj.out.at tJ 1 rfl;have z0:=(aj.out.bel tJ).frozen 0;have z1:=(aj.out.bel tJ).frozen 1;by_cases hlt:q<f.aeN.length
     ·have HO:=hd0 (Vy f A1 A2 A3 A4 A5 A6 A7 A8 c1 c2 c3 c4 c5 c6 c7 c8 r Lu (fun g hg=>(hBg g hg).pts) HK.out hr (r q+1) Yb q (Nat.lt_succ_self _) hlt (HF2.out.below tJ).aeN);clear tJ;go_wp2_with fail
      refine HO.out.mono ?_;rintro e WI ⟨s,rfl,TL⟩;have xR:Below Wg.heap.size Wg WI:=Rk.out.trans (TL.mono Rk.out.size);have Xy:Hid (Below Wg.heap.size Wg WI):=hd0 xR;have E15:Hid (Below w.heap.size w WI):=hd0 (bV.out.trans (xR.mono hzg));clear k0 k1 k2 k3 k4 k5 k6 k7 k8 g0 g1 z0 z1;obtain⟨k0,k1,k2,k3,k4,k5,k6,k7,k8⟩:=nine aG.out xR;have g0:=aj.out.at xR 0 rfl;have g1:=aj.out.at xR 1 rfl;have z0:=(aj.out.bel xR).frozen 0;have z1:=(aj.out.bel xR).frozen 1;clear HO xR TL;by_cases hs:1000<s
      ·have bs:decide (1000<s)=true:=decide_eq_true hs;go_wp2_with fail
       exact aT rfl aj.out Xy.out aS.out.size E15.out _ _ rfl (fun h=>absurd h (by decide))
      have bs:decide (1000<s)=false:=decide_eq_false hs;go_wp2_with fail
      go_roundw
      case rel=>exact⟨q+1,by omega,by simp,hd0 trivial,Xy.out⟩
      case measure=>simp[intOf];omega
     obtain rfl:q=f.aeN.length:=by omega
     have hg:P:=HP.out.mpr ⟨Lu,HE.out,HA.out⟩;clear tJ;go_wp2_with fail
     exact aT rfl aj.out Rk.out aS.out.size E14.out 0 _ rfl (fun _=>hg)
structure afx (f:Fnt):Prop where
 unit:16<=f.unit/\f.unit<=4096
 aeN:afF f
 chars:f.chars.length<=1000/\∀c∈f.chars,(0<=c.rune/\c.rune<=1114111)/\In f.aeN.length c.aeT
 looks:(f.aeO.length<=40/\∀l∈f.aeO,afO f.aeN.length f.aeO.length l)/\f.features.length<=20/\∀x∈f.features,afP f.aeO.length x
 aeP:(f.aeP.length<=3/\∀a∈f.aeP,AU a)/\f.regions.length<=16/\∀r∈f.regions,Ij f.aeP.length r
 afV:(f.funcs.length<=20/\∀p∈f.funcs,MC p)/\f.cvt.length<=64/\∀n∈f.cvt,N9 n
structure afj (f:Fnt):Prop where
 aeN:Big f.aeN.length
 chars:Big f.chars.length
 aeO:Big f.aeO.length
 aeX:Big f.features.length
 aeP:Big f.aeP.length
 regs:Big f.regions.length
 funcs:Big f.funcs.length
 cvt:Big f.cvt.length
 aeT:∀g∈f.aeN,afZ g
 look:∀l∈f.aeO,af6 l
 afY:∀x∈f.features,af7 x
 afE:∀a∈f.aeP,Big a.name.length
 reg:∀r∈f.regions,Big r.ae0.length
 func:∀p∈f.funcs,Big p.length
theorem Rw (w:World)(f:Fnt)(A1 A2 A3 A4 A5 A6 A7 A8:Option Addr)(c1 c2 c3 c4 c5 c6 c7 c8:Nat)(hF:FIn ⟨A1,c1,A2,c2,A3,c3,A4,c4,A5,c5,A6,c6,A7,c7,A8,c8⟩ f w)(hB:afj f):Calls Tryd.prog 31 #[.agg #[.int .i64 f.unit,.slice A1 f.aeN.length c1,.slice A2 f.chars.length c2,.slice A3 f.aeO.length c3,.slice A4 f.features.length c4,.slice A5 f.aeP.length c5,.slice A6 f.regions.length c6,.slice A7 f.funcs.length c7,.slice A8 f.cvt.length c8]] w (Aj w (afx f)):=by
 obtain⟨P,HP⟩:∃P:Prop,Hid (P=(afx f)):=⟨_,rfl⟩
 rw[<-HP.out];obtain⟨Wf,hWf,hbf,bD⟩:=aB w 32 #[.int .i64 f.unit,.slice A1 f.aeN.length c1,.slice A2 f.chars.length c2,.slice A3 f.aeO.length c3,.slice A4 f.features.length c4,.slice A5 f.aeP.length c5,.slice A6 f.regions.length c6,.slice A7 f.funcs.length c7,.slice A8 f.cvt.length c8];have aS:Hid (Below w.heap.size w Wf):=hd0 hbf;have iM:=hd0 bD;have jK:=hd0 (hF.below hbf);obtain⟨Wg,kZ,hbg,hkg⟩:=aB Wf 107 #[.int .i64 0,.int .i64 0];have bV:Hid (Below w.heap.size w Wg):=hd0 (aS.out.trans (hbg.mono aS.out.size));have aj:=hd0 hkg;have aG:Hid (Bk Wg w.heap.size 32 #[.int .i64 f.unit,.slice A1 f.aeN.length c1,.slice A2 f.chars.length c2,.slice A3 f.aeO.length c3,.slice A4 f.features.length c4,.slice A5 f.aeP.length c5,.slice A6 f.regions.length c6,.slice A7 f.funcs.length c7,.slice A8 f.cvt.length c8]):=hd0 (Bk.bel bD hbg);have HF2:=hd0 (jK.out.below hbg);have hzg:=bV.out.size;have kX:Hid (Below Wg.heap.size Wg Wg):=hd0 (agE _ _);have k0:=aG.out.cell 0;have k1:=aG.out.cell 1;have k2:=aG.out.cell 2;have k3:=aG.out.cell 3;have k4:=aG.out.cell 4;have k5:=aG.out.cell 5;have k6:=aG.out.cell 6;have k7:=aG.out.cell 7;have k8:=aG.out.cell 8;have g0:=hkg.cell 0;have g1:=hkg.cell 1;have z0:=hkg.frozen 0;have z1:=hkg.frozen 1;clear hF hbf bD hbg hkg jK;go_enter Tryd.func31,Tryd.ntmps31
 by_cases h1:f.unit<16
 ·have bh1:decide (f.unit<16)=true:=decide_eq_true h1;go_wp2_with fail
  exact aT rfl aj.out kX.out aS.out.size bV.out _ _ rfl (fun h=>absurd h (by decide))
 have bh1:decide (f.unit<16)=false:=decide_eq_false h1;by_cases h2:4096<f.unit
 ·have kF:decide (4096<f.unit)=true:=decide_eq_true h2;go_wp2_with fail
  exact aT rfl aj.out kX.out aS.out.size bV.out _ _ rfl (fun h=>absurd h (by decide))
 have kF:decide (4096<f.unit)=false:=decide_eq_false h2;have HO:=hd0 (MH Wg f A1 A2 A3 A4 A5 A6 A7 A8 c1 c2 c3 c4 c5 c6 c7 c8 HF2.out hB.aeN hB.regs hB.aeT);go_wp2_with fail
 try clear hWf
 try clear kZ
 refine HO.out.mono ?_;rintro e w3 ⟨r3,a3,rfl,Oe,hb3⟩;clear HO;have zg:=aj.out.lt;have hz3:Wg.heap.size<=w3.heap.size:=hb3.size;have hne:¬Wf.heap.size=w3.heap.size:=by omega
 have hne2:¬w3.heap.size=Wf.heap.size:=by omega
 obtain⟨W4,hW4,hbx,HT4⟩:=aB w3 107 #[.int .i64 r3,.int .i64 a3];have hq4:Below Wg.heap.size Wg W4:=hb3.trans (hbx.mono hb3.size);have HB4:Hid (Below Wg.heap.size Wg W4):=hd0 hq4;have E4:Hid (Below w.heap.size w W4):=hd0 (bV.out.trans (hq4.mono hzg))
 try clear k0 k1 k2 k3 k4 k5 k6 k7 k8
 clear g0 g1 z0 z1;obtain⟨k0,k1,k2,k3,k4,k5,k6,k7,k8⟩:=nine aG.out hq4;have g0:=aj.out.at hq4 0 rfl;have g1:=aj.out.at hq4 1 rfl;have z0:=(aj.out.bel hq4).frozen 0;have z1:=(aj.out.bel hq4).frozen 1;have p0:=HT4.cell 0;have p1:=HT4.cell 1;clear hbx hb3;by_cases hr:r3=0
 ·have K3:=hd0 (Oe hr);clear Oe;subst hr;have HO:=hd0 (Pe W4 f A1 A2 A3 A4 A5 A6 A7 A8 c1 c2 c3 c4 c5 c6 c7 c8 (HF2.out.below hq4) hB.aeN hB.chars);clear hq4;go_wp2_with fail
  try clear hW4
  refine HO.out.mono ?_;rintro e w5 ⟨r5,a5,rfl,IB,hb5⟩;clear HO p0 p1;have Ju:=HT4.bel hb5;have f0:=Ju.frozen 0;have f1:=Ju.frozen 1;have c0:=Ju.cell 0;have c1':=Ju.cell 1;obtain⟨W6,VY⟩:∃W,(w5.setCell ⟨w3.heap.size,0,none⟩ (.int .i64 r5)).setCell ⟨w3.heap.size,1,none⟩ (.int .i64 a5)=W:=⟨_,rfl⟩
  have JQ:Bk W6 w3.heap.size oO #[.int .i64 r5,.int .i64 a5]:=by rw[<-VY];have:=(Ju.set 0 (.int .i64 r5)).set 1 (.int .i64 a5);simpa using this
  have hq6:Below Wg.heap.size Wg W6:=by rw[<-VY];exact((HB4.out.trans (hb5.mono HB4.out.size)).setCell hz3 _).setCell hz3 _
  have dU:Hid (Below Wg.heap.size Wg W6):=hd0 hq6;have E6:Hid (Below w.heap.size w W6):=hd0 (bV.out.trans (hq6.mono hzg))
  try clear k0 k1 k2 k3 k4 k5 k6 k7 k8
  clear g0 g1 z0 z1;obtain⟨k0,k1,k2,k3,k4,k5,k6,k7,k8⟩:=nine aG.out hq6;have g0:=aj.out.at hq6 0 rfl;have g1:=aj.out.at hq6 1 rfl;have z0:=(aj.out.bel hq6).frozen 0;have z1:=(aj.out.bel hq6).frozen 1;have p0:=JQ.cell 0;have p1:=JQ.cell 1;clear HT4 Ju hb5;by_cases hr:r5=0
  ·have K5:=hd0 (IB hr);clear IB;subst hr;have HO:=hd0 (PY W6 f A1 A2 A3 A4 A5 A6 A7 A8 c1 c2 c3 c4 c5 c6 c7 c8 (HF2.out.below hq6) hB.aeN hB.aeO hB.aeX hB.look hB.afY);clear hq6;go_wp2_with fail
   try clear VY
   refine HO.out.mono ?_;rintro e w7 ⟨r7,a7,rfl,BM,hb7⟩;clear HO p0 p1;have BD:=JQ.bel hb7;have f0:=BD.frozen 0;have f1:=BD.frozen 1;have c0:=BD.cell 0;have c1':=BD.cell 1;obtain⟨W8,XP⟩:∃W,(w7.setCell ⟨w3.heap.size,0,none⟩ (.int .i64 r7)).setCell ⟨w3.heap.size,1,none⟩ (.int .i64 a7)=W:=⟨_,rfl⟩
   have Ue:Bk W8 w3.heap.size oO #[.int .i64 r7,.int .i64 a7]:=by rw[<-XP];have:=(BD.set 0 (.int .i64 r7)).set 1 (.int .i64 a7);simpa using this
   have hq8:Below Wg.heap.size Wg W8:=by rw[<-XP];exact((dU.out.trans (hb7.mono dU.out.size)).setCell hz3 _).setCell hz3 _
   have lg:Hid (Below Wg.heap.size Wg W8):=hd0 hq8;have E8:Hid (Below w.heap.size w W8):=hd0 (bV.out.trans (hq8.mono hzg))
   try clear k0 k1 k2 k3 k4 k5 k6 k7 k8
   clear g0 g1 z0 z1;obtain⟨k0,k1,k2,k3,k4,k5,k6,k7,k8⟩:=nine aG.out hq8;have g0:=aj.out.at hq8 0 rfl;have g1:=aj.out.at hq8 1 rfl;have z0:=(aj.out.bel hq8).frozen 0;have z1:=(aj.out.bel hq8).frozen 1;have p0:=Ue.cell 0;have p1:=Ue.cell 1;clear JQ BD hb7;by_cases hr:r7=0
   ·have K7:=hd0 (BM hr);clear BM;subst hr;have HO:=hd0 (Qn W8 f A1 A2 A3 A4 A5 A6 A7 A8 c1 c2 c3 c4 c5 c6 c7 c8 (HF2.out.below hq8) hB.aeP hB.regs hB.afE hB.reg);clear hq8;go_wp2_with fail
    try clear XP
    refine HO.out.mono ?_;rintro e w9 ⟨r9,a9,rfl,zI,jO⟩;clear HO p0 p1;have JX:=Ue.bel jO;have f0:=JX.frozen 0;have f1:=JX.frozen 1;have c0:=JX.cell 0;have c1':=JX.cell 1;obtain⟨kC,Ro⟩:∃W,(w9.setCell ⟨w3.heap.size,0,none⟩ (.int .i64 r9)).setCell ⟨w3.heap.size,1,none⟩ (.int .i64 a9)=W:=⟨_,rfl⟩
    have LV:Bk kC w3.heap.size oO #[.int .i64 r9,.int .i64 a9]:=by rw[<-Ro];have:=(JX.set 0 (.int .i64 r9)).set 1 (.int .i64 a9);simpa using this
    have hq10:Below Wg.heap.size Wg kC:=by rw[<-Ro];exact((lg.out.trans (jO.mono lg.out.size)).setCell hz3 _).setCell hz3 _
    have tN:Hid (Below Wg.heap.size Wg kC):=hd0 hq10;have E10:Hid (Below w.heap.size w kC):=hd0 (bV.out.trans (hq10.mono hzg))
    try clear k0 k1 k2 k3 k4 k5 k6 k7 k8
    clear g0 g1 z0 z1;obtain⟨k0,k1,k2,k3,k4,k5,k6,k7,k8⟩:=nine aG.out hq10;have g0:=aj.out.at hq10 0 rfl;have g1:=aj.out.at hq10 1 rfl;have z0:=(aj.out.bel hq10).frozen 0;have z1:=(aj.out.bel hq10).frozen 1;have p0:=LV.cell 0;have p1:=LV.cell 1;clear Ue JX jO;by_cases hr:r9=0
    ·have K9:=hd0 (zI hr);clear zI;subst hr;have HO:=hd0 (Oy kC f A1 A2 A3 A4 A5 A6 A7 A8 c1 c2 c3 c4 c5 c6 c7 c8 (HF2.out.below hq10) hB.funcs hB.cvt hB.func);clear hq10;go_wp2_with fail
     try clear Ro
     refine HO.out.mono ?_;rintro e BC ⟨r11,a11,rfl,Dx,mO⟩;clear HO p0 p1;have DC:=LV.bel mO;have f0:=DC.frozen 0;have f1:=DC.frozen 1;have c0:=DC.cell 0;have c1':=DC.cell 1;obtain⟨TQ,V6⟩:∃W,(BC.setCell ⟨w3.heap.size,0,none⟩ (.int .i64 r11)).setCell ⟨w3.heap.size,1,none⟩ (.int .i64 a11)=W:=⟨_,rfl⟩
     have XZ:Bk TQ w3.heap.size oO #[.int .i64 r11,.int .i64 a11]:=by rw[<-V6];have:=(DC.set 0 (.int .i64 r11)).set 1 (.int .i64 a11);simpa using this
     have hq12:Below Wg.heap.size Wg TQ:=by rw[<-V6];exact((tN.out.trans (mO.mono tN.out.size)).setCell hz3 _).setCell hz3 _
     have oZ:Hid (Below Wg.heap.size Wg TQ):=hd0 hq12;have TW:Hid (Below w.heap.size w TQ):=hd0 (bV.out.trans (hq12.mono hzg))
     try clear k0 k1 k2 k3 k4 k5 k6 k7 k8
     clear g0 g1 z0 z1;obtain⟨k0,k1,k2,k3,k4,k5,k6,k7,k8⟩:=nine aG.out hq12;have g0:=aj.out.at hq12 0 rfl;have g1:=aj.out.at hq12 1 rfl;have z0:=(aj.out.bel hq12).frozen 0;have z1:=(aj.out.bel hq12).frozen 1;have p0:=XZ.cell 0;have p1:=XZ.cell 1;clear LV DC mO;by_cases hr:r11=0
     ·have K11:=hd0 (Dx hr);clear Dx;subst hr;have hg:P:=HP.out.mpr ⟨⟨by omega,by omega⟩,K3.out,K5.out,K7.out,K9.out,K11.out⟩;clear hq12;go_wp2_with fail
      exact aT rfl aj.out oZ.out aS.out.size TW.out _ _ rfl (fun _=>hg)
     have IG:(r11==0)=false:=dJ hr;clear Dx hq12;go_wp2_with fail
     exact aT rfl aj.out oZ.out aS.out.size TW.out _ _ rfl (fun h=>absurd h hr)
    have IG:(r9==0)=false:=dJ hr;clear zI hq10;go_wp2_with fail
    exact aT rfl aj.out tN.out aS.out.size E10.out _ _ rfl (fun h=>absurd h hr)
   have IG:(r7==0)=false:=dJ hr;clear BM hq8;go_wp2_with fail
   exact aT rfl aj.out lg.out aS.out.size E8.out _ _ rfl (fun h=>absurd h hr)
  have IG:(r5==0)=false:=dJ hr;clear IB hq6;go_wp2_with fail
  exact aT rfl aj.out dU.out aS.out.size E6.out _ _ rfl (fun h=>absurd h hr)
 have IG:(r3==0)=false:=dJ hr;clear Oe hq4;go_wp2_with fail
 exact aT rfl aj.out HB4.out aS.out.size E4.out _ _ rfl (fun h=>absurd h hr)
end Go.Proofs.YtkijckccfookeaaDoor
